-- Written by a program of this session (gp.py), which drives the print with some lines turned. Not trusted: Lean checks it.
import Derived.Test.YtipfiodeakapdaaDoorOx0
import Derived.Test.YtipfiodeakapdaaDoorOx1
namespace Go.Proofs.YtipfiodeakapdaaDoor.O
open Go.RowKit Go.Proofs.YtipfiodeakapdaaDoorW.PrintWords Go.Proofs.YtipfiodeakapdaaDoorW.PrintLast Go.Proofs.YtipfiodeakapdaaDoorW.PrintMore
attribute [local go_sem] max2_int min2_int max_two min_two max_three min_three max_four min_four P.emod_u8 P.emod_u16 P.emod_u32
set_option linter.unusedVariables false
set_option linter.unusedSimpArgs false

/-! ### bailiwicklaw02_LabelStars: function 7 -/
def bailiwicklaw02_LabelStars.l0 : Nat → ByteArray → ByteArray → Bool → List ByteArray → Bool → ByteArray → Int → Option (Bool)
  | 0, _, _, _, _, _, _, _ => none
  | k + 1, x0, x1, x5, x6, x7, x8, x9 => if x9 < (x6.length : Int) then (if x7 = true then (if x9 > 0 then (if x8.size + 1 ≤ 9223372036854775807 then (if (x8 ++ (⟨#[46]⟩ : ByteArray)).size + 1 ≤ 9223372036854775807 then (bailiwicklaw02_LabelStars.l0 k x0 x1 x5 x6 true ((x8 ++ (⟨#[46]⟩ : ByteArray)) ++ (⟨#[42]⟩ : ByteArray)) (wrap64 (x9 + 1))) else (none)) else (none)) else (if x8.size + 1 ≤ 9223372036854775807 then (bailiwicklaw02_LabelStars.l0 k x0 x1 x5 x6 true (x8 ++ (⟨#[42]⟩ : ByteArray)) (wrap64 (x9 + 1))) else (none))) else (if 0 ≤ x9 then (if (rdOf ByteArray.empty x6 x9).toList = ([42] : List UInt8) then (if x9 > 0 then (if x8.size + 1 ≤ 9223372036854775807 then (if (x8 ++ (⟨#[46]⟩ : ByteArray)).size + 1 ≤ 9223372036854775807 then (bailiwicklaw02_LabelStars.l0 k x0 x1 x5 x6 true ((x8 ++ (⟨#[46]⟩ : ByteArray)) ++ (⟨#[42]⟩ : ByteArray)) (wrap64 (x9 + 1))) else (none)) else (none)) else (if x8.size + 1 ≤ 9223372036854775807 then (bailiwicklaw02_LabelStars.l0 k x0 x1 x5 x6 true (x8 ++ (⟨#[42]⟩ : ByteArray)) (wrap64 (x9 + 1))) else (none))) else (if x9 > 0 then (if x8.size + 1 ≤ 9223372036854775807 then (if (x8 ++ (⟨#[46]⟩ : ByteArray)).size + 1 ≤ 9223372036854775807 then (bailiwicklaw02_LabelStars.l0 k x0 x1 x5 x6 ((rdOf ByteArray.empty x6 x9).toList == ([42, 42] : List UInt8)) ((x8 ++ (⟨#[46]⟩ : ByteArray)) ++ (⟨#[42]⟩ : ByteArray)) (wrap64 (x9 + 1))) else (none)) else (none)) else (if x8.size + 1 ≤ 9223372036854775807 then (bailiwicklaw02_LabelStars.l0 k x0 x1 x5 x6 ((rdOf ByteArray.empty x6 x9).toList == ([42, 42] : List UInt8)) (x8 ++ (⟨#[42]⟩ : ByteArray)) (wrap64 (x9 + 1))) else (none)))) else (none))) else ((Go.Proofs.YtipfiodeakapdaaDoor.R.Parts.f x1).bind fun t190 => (if x7 = true then (if x5 = true then ((label_Match.f k x8 x1).bind fun t193 => (if (t193 == ((t190.length : Int) == (x6.length : Int))) = true then (if x8.size + 3 ≤ 9223372036854775807 then ((label_Match.f k (x8 ++ (⟨#[46, 42, 42]⟩ : ByteArray)) x1).bind fun t194 => (if (t194 == (decide ((t190.length : Int) > (x6.length : Int)))) = true then ((label_Match.f k x8 x0).bind fun t195 => (some t195)) else (some false))) else (none)) else (some false))) else (some false)) else ((label_Match.f k x0 x1).bind fun t196 => (if x5 = true then (if (t196 == (x0.toList == x1.toList)) = true then ((label_Match.f k x8 x1).bind fun t197 => (if (t197 == ((t190.length : Int) == (x6.length : Int))) = true then (if x8.size + 3 ≤ 9223372036854775807 then ((label_Match.f k (x8 ++ (⟨#[46, 42, 42]⟩ : ByteArray)) x1).bind fun t198 => (if (t198 == (decide ((t190.length : Int) > (x6.length : Int)))) = true then ((label_Match.f k x8 x0).bind fun t199 => (some t199)) else (some false))) else (none)) else (some false))) else (some false)) else (some false)))))
def bailiwicklaw02_LabelStars.f (k : Nat) (a0 : ByteArray) (a1 : ByteArray) : Option (Bool) := (bailiwicklaw02_examples.f k).bind fun t184 => (if t184 = true then (if 0 ≤ (mn (a0.size : Int) 40) then (if (mn (a0.size : Int) 40) ≤ (a0.size : Int) then ((Go.Proofs.YtipfiodeakapdaaDoor.R.Parts.f (a0.extract 0 ((mn (a0.size : Int) 40) : Int).toNat)).bind fun t185 => (bailiwicklaw02_LabelStars.l0 k (a0.extract 0 ((mn (a0.size : Int) 40) : Int).toNat) a1 t184 t185 false (⟨#[]⟩ : ByteArray) 0)) else (none)) else (none)) else (some false))
theorem bailiwicklaw02_LabelStars.mono_l : ∀ k, (∀ y0 y1 y2 y3 y4 y5 y6, LeO (bailiwicklaw02_LabelStars.l0 k y0 y1 y2 y3 y4 y5 y6) (bailiwicklaw02_LabelStars.l0 (k + 1) y0 y1 y2 y3 y4 y5 y6))
  | 0 => fun _ _ _ _ _ _ _ r h => by simp [bailiwicklaw02_LabelStars.l0] at h
  | k + 1 => by
    have ih0 := bailiwicklaw02_LabelStars.mono_l k
    · intro y0 y1 y2 y3 y4 y5 y6
      unfold bailiwicklaw02_LabelStars.l0
      repeat' first
      | (with_reducible exact ih0 _ _ _ _ _ _ _)
      | (with_reducible exact bailiwicklaw02_examples.mono _)
      | (with_reducible exact label_Match.mono _ _ _)
      | (with_reducible exact LeO.refl _)
      | (with_reducible exact LeO.none _)
      | (with_reducible refine LeO.ite ?_ ?_)
      | (with_reducible refine LeO.bind ?_ (fun _ => ?_))
      | exact ih0 _ _ _ _ _ _ _
      | exact bailiwicklaw02_examples.mono _
      | exact label_Match.mono _ _ _
      | exact LeO.none _
      | refine LeO.ite ?_ ?_
      | refine LeO.bind ?_ (fun _ => ?_)
theorem bailiwicklaw02_LabelStars.mono : ∀ a0 a1 k, LeO (bailiwicklaw02_LabelStars.f k a0 a1) (bailiwicklaw02_LabelStars.f (k + 1) a0 a1) := by
  intro a0 a1 k
  have ih0 := bailiwicklaw02_LabelStars.mono_l k
  unfold bailiwicklaw02_LabelStars.f
  repeat' first
      | (with_reducible exact ih0 _ _ _ _ _ _ _)
      | (with_reducible exact bailiwicklaw02_examples.mono _)
      | (with_reducible exact label_Match.mono _ _ _)
      | (with_reducible exact LeO.refl _)
      | (with_reducible exact LeO.none _)
      | (with_reducible refine LeO.ite ?_ ?_)
      | (with_reducible refine LeO.bind ?_ (fun _ => ?_))
      | exact ih0 _ _ _ _ _ _ _
      | exact bailiwicklaw02_examples.mono _
      | exact label_Match.mono _ _ _
      | exact LeO.none _
      | refine LeO.ite ?_ ?_
      | refine LeO.bind ?_ (fun _ => ?_)
set_option maxHeartbeats 8000000 in
set_option maxRecDepth 100000 in
theorem bailiwicklaw02_LabelStars.calls (k : Nat) (a0 : ByteArray) (a1 : ByteArray) (r : Bool) (w : World) (h : bailiwicklaw02_LabelStars.f k a0 a1 = some r) :
    Calls Tryd.prog 7 #[.string a0, .string a1] w fun e w' => e = .returned (.bool r) ∧ Below w.heap.size w w' := by
  have HB := Aside0.mk (Below.refl w.heap.size w)
  have H : ((bailiwicklaw02_examples.f k).bind fun t184 => (if t184 = true then (if 0 ≤ (mn (a0.size : Int) 40) then (if (mn (a0.size : Int) 40) ≤ (a0.size : Int) then ((Go.Proofs.YtipfiodeakapdaaDoor.R.Parts.f (a0.extract 0 ((mn (a0.size : Int) 40) : Int).toNat)).bind fun t185 => (bailiwicklaw02_LabelStars.l0 k (a0.extract 0 ((mn (a0.size : Int) 40) : Int).toNat) a1 t184 t185 false (⟨#[]⟩ : ByteArray) 0)) else (none)) else (none)) else (some false))) = some r := h
  clear h
  replace H := Option.bind_eq_some_iff.mp H
  obtain ⟨t184, A30, H⟩ := H
  replace H : (if t184 = true then (if 0 ≤ (mn (a0.size : Int) 40) then (if (mn (a0.size : Int) 40) ≤ (a0.size : Int) then ((Go.Proofs.YtipfiodeakapdaaDoor.R.Parts.f (a0.extract 0 ((mn (a0.size : Int) 40) : Int).toNat)).bind fun t185 => (bailiwicklaw02_LabelStars.l0 k (a0.extract 0 ((mn (a0.size : Int) 40) : Int).toNat) a1 t184 t185 false (⟨#[]⟩ : ByteArray) 0)) else (none)) else (none)) else (some false)) = some r := H
  have A3 := Aside0.mk A30
  clear A30
  by_cases c4 : t184 = true
  · subst c4
    have H1 : (if 0 ≤ (mn (a0.size : Int) 40) then (if (mn (a0.size : Int) 40) ≤ (a0.size : Int) then ((Go.Proofs.YtipfiodeakapdaaDoor.R.Parts.f (a0.extract 0 ((mn (a0.size : Int) 40) : Int).toNat)).bind fun t185 => (bailiwicklaw02_LabelStars.l0 k (a0.extract 0 ((mn (a0.size : Int) 40) : Int).toNat) a1 true t185 false (⟨#[]⟩ : ByteArray) 0)) else (none)) else (none)) = some r := by first | (rw [if_pos rfl] at H; exact H) | (rw [if_pos trivial] at H; exact H)
    clear H
    have H := H1
    clear H1
    obtain ⟨ji5, hji5⟩ : ∃ j_ : Int, (mn (a0.size : Int) 40) = j_ := ⟨_, rfl⟩
    replace H : (if 0 ≤ (ji5) then (if (ji5) ≤ (a0.size : Int) then ((Go.Proofs.YtipfiodeakapdaaDoor.R.Parts.f (a0.extract 0 ((ji5) : Int).toNat)).bind fun t185 => (bailiwicklaw02_LabelStars.l0 k (a0.extract 0 ((ji5) : Int).toNat) a1 true t185 false (⟨#[]⟩ : ByteArray) 0)) else (none)) else (none)) = some r := by first | (rw [hji5] at H; exact H) | (simp only [hji5] at H ⊢; exact H)
    (try rw [hji5] at A3)
    (try (have hji5h : ji5 ≤ 40 := by (rw [← hji5]; unfold mn; (repeat' split) <;> omega)))
    (try (have hji5g : ji5 ≤ 64 := by omega))
    (try (have hji5l : 0 ≤ ji5 := by (rw [← hji5]; unfold mn; (repeat' split) <;> omega)))
    (try (have hji5m : 0 ≤ ji5 := by omega))
    have hji5_ : (if 40 < (a0.size : Int) then 40 else (a0.size : Int)) = ji5 := hji5
    obtain ⟨bx5_a0, hbx5_a0⟩ : ∃ b_ : ByteArray, (a0.extract 0 (ji5 : Int).toNat) = b_ := ⟨_, rfl⟩
    have hbx5_a0z : bx5_a0.size ≤ 40 := by rw [← hbx5_a0, ByteArray.size_extract]; omega
    simp only [hbx5_a0] at H
    by_cases c6 : 0 ≤ (ji5)
    · rw [if_pos c6] at H
      have c6b0 := eq_true c6
      have c6b1 : decide (0 ≤ (ji5)) = true := decide_eq_true c6
      clear c6
      by_cases c7 : (ji5) ≤ (a0.size : Int)
      · rw [if_pos c7] at H
        have c7b0 := eq_true c7
        have c7b1 : decide ((ji5) ≤ (a0.size : Int)) = true := decide_eq_true c7
        clear c7
        replace H := Option.bind_eq_some_iff.mp H
        obtain ⟨t185, A80, H⟩ := H
        replace H : (bailiwicklaw02_LabelStars.l0 k bx5_a0 a1 true t185 false (⟨#[]⟩ : ByteArray) 0) = some r := H
        have A8 := Aside0.mk A80
        clear A80
        have H' := Aside0.mk H
        clear H
        go_enter Tryd.func7, Tryd.ntmps7
        (try dsimp only [List.append])
        go_wp2_with (first | ((with_reducible refine gate_callee (f := 10) rfl ?_); refine goesL_ (some 12) rfl rfl Tryd.func10 (by kernel_rfl) rfl #[] rfl (by (try simp only [List.map_toArray, List.map_cons, List.map_nil]); first | done | rfl | (simp only [List.length_drop, List.length_take]; rfl)) ?_; (with_reducible refine (bailiwicklaw02_examples.calls k  true _ A3.out).mono ?_); rintro e w9 ⟨rfl, hb⟩; refine ⟨_, rfl, ?_⟩; have n0_ := Aside0.mk (below_step (by repeat (first | (with_reducible first | exact HB.out | apply below_alloc | apply pw_below_drewN | apply below_drew1) | exact HB.out)) hb); clear HB; have HB := n0_; clear n0_; (try clear hb); (try clear hb2); (try clear hk); (try clear hi)) | ((with_reducible refine gate_callee (f := 18) rfl ?_); refine goesL_ (some 21) rfl rfl Tryd.func18 (by kernel_rfl) rfl #[.string bx5_a0] rfl (by (try simp only [List.map_toArray, List.map_cons, List.map_nil]); first | done | (simp only [hji5]; rfl) | rfl | (simp only [List.length_drop, List.length_take]; rfl)) ?_; (with_reducible refine (Go.Proofs.YtipfiodeakapdaaDoor.R.Parts.calls bx5_a0 t185 _ A8.out).mono ?_); rintro e w10 ⟨v186, rfl, ho0, hb⟩; refine ⟨_, rfl, ?_⟩; have n0_ := Aside0.mk (Kd.R_lower ho0 (below_size (by repeat (first | (with_reducible first | exact HB.out | apply below_alloc | apply pw_below_drewN | apply below_drew1) | exact HB.out)))); have n1_ := Aside0.mk (below_step (by repeat (first | (with_reducible first | exact HB.out | apply below_alloc | apply pw_below_drewN | apply below_drew1) | exact HB.out)) hb); clear HB; have HO187 := n0_; have HB := n1_; clear n0_ n1_; (try clear hb); (try clear hb2); (try clear hk); (try clear hi); (try clear ho0)))
        go_loopg [7, 8, 9] k (fun kq v7 v8 v9 w' => ∃ (x7_1 : Bool) (x8_1 : ByteArray) (x9_1 : Int), v7 = .bool x7_1 ∧ v8 = .string x8_1 ∧ v9 = .int .i64 x9_1 ∧ Aside0 (bailiwicklaw02_LabelStars.l0 kq bx5_a0 a1 true t185 x7_1 x8_1 x9_1 = some r) ∧ Aside0 (kq ≤ k) ∧ Aside0 (Kd.R Kd.string 9 w' w.heap.size (fun _ => True) v186 t185) ∧ Aside0 (Below w.heap.size w w'))
        case atStart => exact ⟨(false), ((⟨#[]⟩ : ByteArray)), (0), (by first | rfl | (simp; done) | (simp [*]; done)), (by first | rfl | (simp; done) | (simp [*]; done)), (by first | rfl | (simp; done) | (simp [*]; done)), H', ⟨Nat.le_refl _⟩, ⟨by (with_reducible repeat (first | apply Kd.R_alloc | apply Kd.R_drewN | apply Kd.R_drew)); exact HO187.out⟩, ⟨by repeat (first | (with_reducible first | exact HB.out | apply below_alloc | apply pw_below_drewN | apply below_drew1) | exact HB.out)⟩⟩
        case round =>
          clear H'
          try clear c1
          try clear p2
          try clear c4
          try clear c6
          try clear c6b0
          try clear c6b1
          try clear c7
          try clear c7b0
          try clear c7b1
          try clear c10
          obtain ⟨x7_1, x8_1, x9_1, rfl, rfl, rfl, HA, HK1, HO_6, HB⟩ := hrel
          cases gk with
          | zero => exact absurd HA.out (by simp [bailiwicklaw02_LabelStars.l0])
          | succ k1 =>
            have H := HA.out
            clear HA
            simp only [bailiwicklaw02_LabelStars.l0] at H
            by_cases c11 : x9_1 < (t185.length : Int)
            · rw [if_pos c11] at H
              have c11b0 : decide (x9_1 < (t185.length : Int)) = true := decide_eq_true c11
              clear c11
              by_cases c12 : x7_1 = true
              · subst c12
                have H1 : (if x9_1 > 0 then (if x8_1.size + 1 ≤ 9223372036854775807 then (if (x8_1 ++ (⟨#[46]⟩ : ByteArray)).size + 1 ≤ 9223372036854775807 then (bailiwicklaw02_LabelStars.l0 k1 bx5_a0 a1 true t185 true ((x8_1 ++ (⟨#[46]⟩ : ByteArray)) ++ (⟨#[42]⟩ : ByteArray)) (wrap64 (x9_1 + 1))) else (none)) else (none)) else (if x8_1.size + 1 ≤ 9223372036854775807 then (bailiwicklaw02_LabelStars.l0 k1 bx5_a0 a1 true t185 true (x8_1 ++ (⟨#[42]⟩ : ByteArray)) (wrap64 (x9_1 + 1))) else (none))) = some r := by first | (rw [if_pos rfl] at H; exact H) | (rw [if_pos trivial] at H; exact H)
                clear H
                have H := H1
                clear H1
                by_cases c13 : x9_1 > 0
                · rw [if_pos c13] at H
                  have c13b0 : decide (0 < x9_1) = true := decide_eq_true c13
                  clear c13
                  by_cases c14 : x8_1.size + 1 ≤ 9223372036854775807
                  · rw [if_pos c14] at H
                    have c14b0 := eq_true c14
                    have c14b1 : decide (x8_1.size + 1 ≤ 9223372036854775807) = true := decide_eq_true c14
                    try have c14b2 : (9223372036854775807 < x8_1.size + 1) = False := eq_false (Nat.not_lt.2 c14)
                    by_cases c15 : (x8_1 ++ (⟨#[46]⟩ : ByteArray)).size + 1 ≤ 9223372036854775807
                    · rw [if_pos c15] at H
                      have c15b0 := eq_true c15
                      have c15b1 : decide ((x8_1 ++ (⟨#[46]⟩ : ByteArray)).size + 1 ≤ 9223372036854775807) = true := decide_eq_true c15
                      try have c15b2 : (9223372036854775807 < (x8_1 ++ (⟨#[46]⟩ : ByteArray)).size + 1) = False := eq_false (Nat.not_lt.2 c15)
                      try (have c15q := c15; simp only [ByteArray.size_append] at c15q; have c15r := eq_false (Nat.not_lt.2 c15q); have c15s := eq_true c15q)
                      try (have c15t := c15q; simp only [show ∀ a_ : Array UInt8, ByteArray.size ⟨a_⟩ = a_.size from fun _ => rfl, List.size_toArray, List.length_cons, List.length_nil, Nat.zero_add, Nat.reduceAdd] at c15t; simp only [show ∀ b_ : ByteArray, b_.data.size = b_.size from fun _ => rfl] at c15t; have c15u := eq_false (Nat.not_lt.2 c15t); have c15v := eq_true c15t)
                      have H' := Aside0.mk H
                      clear H
                      obtain ⟨Ao16, co16, eo16⟩ := Kd.R_slice HO_6.out
                      subst eo16
                      go_wp2
                      go_roundg k1
                      case measure => have := HK1.out; omega
                      case rel => exact ⟨(true), ((x8_1 ++ (⟨#[46]⟩ : ByteArray)) ++ (⟨#[42]⟩ : ByteArray)), (wrap64 (x9_1 + 1)), (by first | rfl | (simp; done) | (simp [*]; done)), (by first | rfl | (simp; done) | (simp [*]; done)), (by first | rfl | (simp; done) | (simp [*]; done)), H', ⟨by have := HK1.out; omega⟩, ⟨by (with_reducible repeat (first | apply Kd.R_alloc | apply Kd.R_drewN | apply Kd.R_drew)); exact HO_6.out⟩, ⟨by repeat (first | (with_reducible first | exact HB.out | apply below_alloc | apply pw_below_drewN | apply below_drew1) | exact HB.out)⟩⟩
                    · rw [if_neg c15] at H
                      exact absurd H (by simp)
                  · rw [if_neg c14] at H
                    exact absurd H (by simp)
                · rw [if_neg c13] at H
                  have c13b0 : decide (0 < x9_1) = false := decide_eq_false c13
                  clear c13
                  by_cases c17 : x8_1.size + 1 ≤ 9223372036854775807
                  · rw [if_pos c17] at H
                    have c17b0 := eq_true c17
                    have c17b1 : decide (x8_1.size + 1 ≤ 9223372036854775807) = true := decide_eq_true c17
                    try have c17b2 : (9223372036854775807 < x8_1.size + 1) = False := eq_false (Nat.not_lt.2 c17)
                    have H' := Aside0.mk H
                    clear H
                    obtain ⟨Ao18, co18, eo18⟩ := Kd.R_slice HO_6.out
                    subst eo18
                    go_wp2
                    go_roundg k1
                    case measure => have := HK1.out; omega
                    case rel => exact ⟨(true), (x8_1 ++ (⟨#[42]⟩ : ByteArray)), (wrap64 (x9_1 + 1)), (by first | rfl | (simp; done) | (simp [*]; done)), (by first | rfl | (simp; done) | (simp [*]; done)), (by first | rfl | (simp; done) | (simp [*]; done)), H', ⟨by have := HK1.out; omega⟩, ⟨by (with_reducible repeat (first | apply Kd.R_alloc | apply Kd.R_drewN | apply Kd.R_drew)); exact HO_6.out⟩, ⟨by repeat (first | (with_reducible first | exact HB.out | apply below_alloc | apply pw_below_drewN | apply below_drew1) | exact HB.out)⟩⟩
                  · rw [if_neg c17] at H
                    exact absurd H (by simp)
              · replace c12 := Bool.eq_false_iff.mpr c12
                subst c12
                have H1 : (if 0 ≤ x9_1 then (if (rdOf ByteArray.empty t185 x9_1).toList = ([42] : List UInt8) then (if x9_1 > 0 then (if x8_1.size + 1 ≤ 9223372036854775807 then (if (x8_1 ++ (⟨#[46]⟩ : ByteArray)).size + 1 ≤ 9223372036854775807 then (bailiwicklaw02_LabelStars.l0 k1 bx5_a0 a1 true t185 true ((x8_1 ++ (⟨#[46]⟩ : ByteArray)) ++ (⟨#[42]⟩ : ByteArray)) (wrap64 (x9_1 + 1))) else (none)) else (none)) else (if x8_1.size + 1 ≤ 9223372036854775807 then (bailiwicklaw02_LabelStars.l0 k1 bx5_a0 a1 true t185 true (x8_1 ++ (⟨#[42]⟩ : ByteArray)) (wrap64 (x9_1 + 1))) else (none))) else (if x9_1 > 0 then (if x8_1.size + 1 ≤ 9223372036854775807 then (if (x8_1 ++ (⟨#[46]⟩ : ByteArray)).size + 1 ≤ 9223372036854775807 then (bailiwicklaw02_LabelStars.l0 k1 bx5_a0 a1 true t185 ((rdOf ByteArray.empty t185 x9_1).toList == ([42, 42] : List UInt8)) ((x8_1 ++ (⟨#[46]⟩ : ByteArray)) ++ (⟨#[42]⟩ : ByteArray)) (wrap64 (x9_1 + 1))) else (none)) else (none)) else (if x8_1.size + 1 ≤ 9223372036854775807 then (bailiwicklaw02_LabelStars.l0 k1 bx5_a0 a1 true t185 ((rdOf ByteArray.empty t185 x9_1).toList == ([42, 42] : List UInt8)) (x8_1 ++ (⟨#[42]⟩ : ByteArray)) (wrap64 (x9_1 + 1))) else (none)))) else (none)) = some r := by rw [if_neg (show ¬ (false = true) by decide)] at H; exact H
                clear H
                have H := H1
                clear H1
                by_cases c19 : 0 ≤ x9_1
                · rw [if_pos c19] at H
                  have c19b0 : decide (0 ≤ x9_1) = true := decide_eq_true c19
                  clear c19
                  by_cases c20 : (rdOf ByteArray.empty t185 x9_1).toList = ([42] : List UInt8)
                  · rw [if_pos c20] at H
                    have c20b0 : ((rdOf ByteArray.empty t185 x9_1).toList == ([42] : List UInt8)) = true := beq_iff_eq.mpr c20
                    have c20b1 : ((rdOf ByteArray.empty t185 x9_1).toList != ([42] : List UInt8)) = false := bne_eq_false_iff_eq.mpr c20
                    clear c20
                    by_cases c21 : x9_1 > 0
                    · rw [if_pos c21] at H
                      have c21b0 : decide (0 < x9_1) = true := decide_eq_true c21
                      clear c21
                      by_cases c22 : x8_1.size + 1 ≤ 9223372036854775807
                      · rw [if_pos c22] at H
                        have c22b0 := eq_true c22
                        have c22b1 : decide (x8_1.size + 1 ≤ 9223372036854775807) = true := decide_eq_true c22
                        try have c22b2 : (9223372036854775807 < x8_1.size + 1) = False := eq_false (Nat.not_lt.2 c22)
                        by_cases c23 : (x8_1 ++ (⟨#[46]⟩ : ByteArray)).size + 1 ≤ 9223372036854775807
                        · rw [if_pos c23] at H
                          have c23b0 := eq_true c23
                          have c23b1 : decide ((x8_1 ++ (⟨#[46]⟩ : ByteArray)).size + 1 ≤ 9223372036854775807) = true := decide_eq_true c23
                          try have c23b2 : (9223372036854775807 < (x8_1 ++ (⟨#[46]⟩ : ByteArray)).size + 1) = False := eq_false (Nat.not_lt.2 c23)
                          try (have c23q := c23; simp only [ByteArray.size_append] at c23q; have c23r := eq_false (Nat.not_lt.2 c23q); have c23s := eq_true c23q)
                          try (have c23t := c23q; simp only [show ∀ a_ : Array UInt8, ByteArray.size ⟨a_⟩ = a_.size from fun _ => rfl, List.size_toArray, List.length_cons, List.length_nil, Nat.zero_add, Nat.reduceAdd] at c23t; simp only [show ∀ b_ : ByteArray, b_.data.size = b_.size from fun _ => rfl] at c23t; have c23u := eq_false (Nat.not_lt.2 c23t); have c23v := eq_true c23t)
                          have H' := Aside0.mk H
                          clear H
                          obtain ⟨Ao24, co24, eo24⟩ := Kd.R_slice HO_6.out
                          subst eo24
                          have p188 : 0 ≤ (x9_1 : Int) := of_decide_eq_true (by first | (with_reducible assumption) | assumption)
                          have q188 : x9_1 < (t185.length : Int) := of_decide_eq_true (by first | (with_reducible assumption) | assumption)
                          obtain ⟨ad188, e188, hx188_0⟩ := Kd.at_string (Kd.R_reads' HO_6.out).2.2 x9_1 p188 q188
                          cases e188
                          replace p188 := eq_true p188
                          replace q188 := eq_true q188
                          go_wp2
                          go_roundg k1
                          case measure => have := HK1.out; omega
                          case rel => exact ⟨(true), ((x8_1 ++ (⟨#[46]⟩ : ByteArray)) ++ (⟨#[42]⟩ : ByteArray)), (wrap64 (x9_1 + 1)), (by first | rfl | (simp; done) | (simp [*]; done)), (by first | rfl | (simp; done) | (simp [*]; done)), (by first | rfl | (simp; done) | (simp [*]; done)), H', ⟨by have := HK1.out; omega⟩, ⟨by (with_reducible repeat (first | apply Kd.R_alloc | apply Kd.R_drewN | apply Kd.R_drew)); exact HO_6.out⟩, ⟨by repeat (first | (with_reducible first | exact HB.out | apply below_alloc | apply pw_below_drewN | apply below_drew1) | exact HB.out)⟩⟩
                        · rw [if_neg c23] at H
                          exact absurd H (by simp)
                      · rw [if_neg c22] at H
                        exact absurd H (by simp)
                    · rw [if_neg c21] at H
                      have c21b0 : decide (0 < x9_1) = false := decide_eq_false c21
                      clear c21
                      by_cases c25 : x8_1.size + 1 ≤ 9223372036854775807
                      · rw [if_pos c25] at H
                        have c25b0 := eq_true c25
                        have c25b1 : decide (x8_1.size + 1 ≤ 9223372036854775807) = true := decide_eq_true c25
                        try have c25b2 : (9223372036854775807 < x8_1.size + 1) = False := eq_false (Nat.not_lt.2 c25)
                        have H' := Aside0.mk H
                        clear H
                        obtain ⟨Ao26, co26, eo26⟩ := Kd.R_slice HO_6.out
                        subst eo26
                        have p188 : 0 ≤ (x9_1 : Int) := of_decide_eq_true (by first | (with_reducible assumption) | assumption)
                        have q188 : x9_1 < (t185.length : Int) := of_decide_eq_true (by first | (with_reducible assumption) | assumption)
                        obtain ⟨ad188, e188, hx188_0⟩ := Kd.at_string (Kd.R_reads' HO_6.out).2.2 x9_1 p188 q188
                        cases e188
                        replace p188 := eq_true p188
                        replace q188 := eq_true q188
                        go_wp2
                        go_roundg k1
                        case measure => have := HK1.out; omega
                        case rel => exact ⟨(true), (x8_1 ++ (⟨#[42]⟩ : ByteArray)), (wrap64 (x9_1 + 1)), (by first | rfl | (simp; done) | (simp [*]; done)), (by first | rfl | (simp; done) | (simp [*]; done)), (by first | rfl | (simp; done) | (simp [*]; done)), H', ⟨by have := HK1.out; omega⟩, ⟨by (with_reducible repeat (first | apply Kd.R_alloc | apply Kd.R_drewN | apply Kd.R_drew)); exact HO_6.out⟩, ⟨by repeat (first | (with_reducible first | exact HB.out | apply below_alloc | apply pw_below_drewN | apply below_drew1) | exact HB.out)⟩⟩
                      · rw [if_neg c25] at H
                        exact absurd H (by simp)
                  · rw [if_neg c20] at H
                    have c20b0 : ((rdOf ByteArray.empty t185 x9_1).toList == ([42] : List UInt8)) = false := beq_eq_false_iff_ne.mpr c20
                    have c20b1 : ((rdOf ByteArray.empty t185 x9_1).toList != ([42] : List UInt8)) = true := bne_iff_ne.mpr c20
                    by_cases c27 : x9_1 > 0
                    · rw [if_pos c27] at H
                      have c27b0 : decide (0 < x9_1) = true := decide_eq_true c27
                      clear c27
                      by_cases c28 : x8_1.size + 1 ≤ 9223372036854775807
                      · rw [if_pos c28] at H
                        have c28b0 := eq_true c28
                        have c28b1 : decide (x8_1.size + 1 ≤ 9223372036854775807) = true := decide_eq_true c28
                        try have c28b2 : (9223372036854775807 < x8_1.size + 1) = False := eq_false (Nat.not_lt.2 c28)
                        by_cases c29 : (x8_1 ++ (⟨#[46]⟩ : ByteArray)).size + 1 ≤ 9223372036854775807
                        · rw [if_pos c29] at H
                          have c29b0 := eq_true c29
                          have c29b1 : decide ((x8_1 ++ (⟨#[46]⟩ : ByteArray)).size + 1 ≤ 9223372036854775807) = true := decide_eq_true c29
                          try have c29b2 : (9223372036854775807 < (x8_1 ++ (⟨#[46]⟩ : ByteArray)).size + 1) = False := eq_false (Nat.not_lt.2 c29)
                          try (have c29q := c29; simp only [ByteArray.size_append] at c29q; have c29r := eq_false (Nat.not_lt.2 c29q); have c29s := eq_true c29q)
                          try (have c29t := c29q; simp only [show ∀ a_ : Array UInt8, ByteArray.size ⟨a_⟩ = a_.size from fun _ => rfl, List.size_toArray, List.length_cons, List.length_nil, Nat.zero_add, Nat.reduceAdd] at c29t; simp only [show ∀ b_ : ByteArray, b_.data.size = b_.size from fun _ => rfl] at c29t; have c29u := eq_false (Nat.not_lt.2 c29t); have c29v := eq_true c29t)
                          have H' := Aside0.mk H
                          clear H
                          obtain ⟨Ao30, co30, eo30⟩ := Kd.R_slice HO_6.out
                          subst eo30
                          have p188 : 0 ≤ (x9_1 : Int) := of_decide_eq_true (by first | (with_reducible assumption) | assumption)
                          have q188 : x9_1 < (t185.length : Int) := of_decide_eq_true (by first | (with_reducible assumption) | assumption)
                          obtain ⟨ad188, e188, hx188_0⟩ := Kd.at_string (Kd.R_reads' HO_6.out).2.2 x9_1 p188 q188
                          cases e188
                          replace p188 := eq_true p188
                          replace q188 := eq_true q188
                          have p189 : 0 ≤ (x9_1 : Int) := of_decide_eq_true (by first | (with_reducible assumption) | assumption)
                          have q189 : x9_1 < (t185.length : Int) := of_decide_eq_true (by first | (with_reducible assumption) | assumption)
                          obtain ⟨ad189, e189, hx189_0⟩ := Kd.at_string (Kd.R_reads' HO_6.out).2.2 x9_1 p189 q189
                          obtain rfl : ad188 = ad189 := (by injection e189)
                          replace p189 := eq_true p189
                          replace q189 := eq_true q189
                          go_wp2
                          go_roundg k1
                          case measure => have := HK1.out; omega
                          case rel => exact ⟨(((rdOf ByteArray.empty t185 x9_1).toList == ([42, 42] : List UInt8))), ((x8_1 ++ (⟨#[46]⟩ : ByteArray)) ++ (⟨#[42]⟩ : ByteArray)), (wrap64 (x9_1 + 1)), (by first | rfl | (simp; done) | (simp [*]; done)), (by first | rfl | (simp; done) | (simp [*]; done)), (by first | rfl | (simp; done) | (simp [*]; done)), H', ⟨by have := HK1.out; omega⟩, ⟨by (with_reducible repeat (first | apply Kd.R_alloc | apply Kd.R_drewN | apply Kd.R_drew)); exact HO_6.out⟩, ⟨by repeat (first | (with_reducible first | exact HB.out | apply below_alloc | apply pw_below_drewN | apply below_drew1) | exact HB.out)⟩⟩
                        · rw [if_neg c29] at H
                          exact absurd H (by simp)
                      · rw [if_neg c28] at H
                        exact absurd H (by simp)
                    · rw [if_neg c27] at H
                      have c27b0 : decide (0 < x9_1) = false := decide_eq_false c27
                      clear c27
                      by_cases c31 : x8_1.size + 1 ≤ 9223372036854775807
                      · rw [if_pos c31] at H
                        have c31b0 := eq_true c31
                        have c31b1 : decide (x8_1.size + 1 ≤ 9223372036854775807) = true := decide_eq_true c31
                        try have c31b2 : (9223372036854775807 < x8_1.size + 1) = False := eq_false (Nat.not_lt.2 c31)
                        have H' := Aside0.mk H
                        clear H
                        obtain ⟨Ao32, co32, eo32⟩ := Kd.R_slice HO_6.out
                        subst eo32
                        have p188 : 0 ≤ (x9_1 : Int) := of_decide_eq_true (by first | (with_reducible assumption) | assumption)
                        have q188 : x9_1 < (t185.length : Int) := of_decide_eq_true (by first | (with_reducible assumption) | assumption)
                        obtain ⟨ad188, e188, hx188_0⟩ := Kd.at_string (Kd.R_reads' HO_6.out).2.2 x9_1 p188 q188
                        cases e188
                        replace p188 := eq_true p188
                        replace q188 := eq_true q188
                        have p189 : 0 ≤ (x9_1 : Int) := of_decide_eq_true (by first | (with_reducible assumption) | assumption)
                        have q189 : x9_1 < (t185.length : Int) := of_decide_eq_true (by first | (with_reducible assumption) | assumption)
                        obtain ⟨ad189, e189, hx189_0⟩ := Kd.at_string (Kd.R_reads' HO_6.out).2.2 x9_1 p189 q189
                        obtain rfl : ad188 = ad189 := (by injection e189)
                        replace p189 := eq_true p189
                        replace q189 := eq_true q189
                        go_wp2
                        go_roundg k1
                        case measure => have := HK1.out; omega
                        case rel => exact ⟨(((rdOf ByteArray.empty t185 x9_1).toList == ([42, 42] : List UInt8))), (x8_1 ++ (⟨#[42]⟩ : ByteArray)), (wrap64 (x9_1 + 1)), (by first | rfl | (simp; done) | (simp [*]; done)), (by first | rfl | (simp; done) | (simp [*]; done)), (by first | rfl | (simp; done) | (simp [*]; done)), H', ⟨by have := HK1.out; omega⟩, ⟨by (with_reducible repeat (first | apply Kd.R_alloc | apply Kd.R_drewN | apply Kd.R_drew)); exact HO_6.out⟩, ⟨by repeat (first | (with_reducible first | exact HB.out | apply below_alloc | apply pw_below_drewN | apply below_drew1) | exact HB.out)⟩⟩
                      · rw [if_neg c31] at H
                        exact absurd H (by simp)
                · rw [if_neg c19] at H
                  exact absurd H (by simp)
            · rw [if_neg c11] at H
              have c11b0 : decide (x9_1 < (t185.length : Int)) = false := decide_eq_false c11
              clear c11
              replace H := Option.bind_eq_some_iff.mp H
              obtain ⟨t190, A330, H⟩ := H
              replace H : (if x7_1 = true then (if true = true then ((label_Match.f k1 x8_1 a1).bind fun t193 => (if (t193 == ((t190.length : Int) == (t185.length : Int))) = true then (if x8_1.size + 3 ≤ 9223372036854775807 then ((label_Match.f k1 (x8_1 ++ (⟨#[46, 42, 42]⟩ : ByteArray)) a1).bind fun t194 => (if (t194 == (decide ((t190.length : Int) > (t185.length : Int)))) = true then ((label_Match.f k1 x8_1 bx5_a0).bind fun t195 => (some t195)) else (some false))) else (none)) else (some false))) else (some false)) else ((label_Match.f k1 bx5_a0 a1).bind fun t196 => (if true = true then (if (t196 == (bx5_a0.toList == a1.toList)) = true then ((label_Match.f k1 x8_1 a1).bind fun t197 => (if (t197 == ((t190.length : Int) == (t185.length : Int))) = true then (if x8_1.size + 3 ≤ 9223372036854775807 then ((label_Match.f k1 (x8_1 ++ (⟨#[46, 42, 42]⟩ : ByteArray)) a1).bind fun t198 => (if (t198 == (decide ((t190.length : Int) > (t185.length : Int)))) = true then ((label_Match.f k1 x8_1 bx5_a0).bind fun t199 => (some t199)) else (some false))) else (none)) else (some false))) else (some false)) else (some false)))) = some r := H
              have A33 := Aside0.mk A330
              clear A330
              by_cases c34 : x7_1 = true
              · subst c34
                have H1 : (if true = true then ((label_Match.f k1 x8_1 a1).bind fun t193 => (if (t193 == ((t190.length : Int) == (t185.length : Int))) = true then (if x8_1.size + 3 ≤ 9223372036854775807 then ((label_Match.f k1 (x8_1 ++ (⟨#[46, 42, 42]⟩ : ByteArray)) a1).bind fun t194 => (if (t194 == (decide ((t190.length : Int) > (t185.length : Int)))) = true then ((label_Match.f k1 x8_1 bx5_a0).bind fun t195 => (some t195)) else (some false))) else (none)) else (some false))) else (some false)) = some r := by first | (rw [if_pos rfl] at H; exact H) | (rw [if_pos trivial] at H; exact H)
                clear H
                have H := H1
                clear H1
                by_cases c35 : true = true
                · clear c35
                  have H1 : ((label_Match.f k1 x8_1 a1).bind fun t193 => (if (t193 == ((t190.length : Int) == (t185.length : Int))) = true then (if x8_1.size + 3 ≤ 9223372036854775807 then ((label_Match.f k1 (x8_1 ++ (⟨#[46, 42, 42]⟩ : ByteArray)) a1).bind fun t194 => (if (t194 == (decide ((t190.length : Int) > (t185.length : Int)))) = true then ((label_Match.f k1 x8_1 bx5_a0).bind fun t195 => (some t195)) else (some false))) else (none)) else (some false))) = some r := by first | (rw [if_pos rfl] at H; exact H) | (rw [if_pos trivial] at H; exact H)
                  clear H
                  have H := H1
                  clear H1
                  replace H := Option.bind_eq_some_iff.mp H
                  obtain ⟨t193, A360, H⟩ := H
                  replace H : (if (t193 == ((t190.length : Int) == (t185.length : Int))) = true then (if x8_1.size + 3 ≤ 9223372036854775807 then ((label_Match.f k1 (x8_1 ++ (⟨#[46, 42, 42]⟩ : ByteArray)) a1).bind fun t194 => (if (t194 == (decide ((t190.length : Int) > (t185.length : Int)))) = true then ((label_Match.f k1 x8_1 bx5_a0).bind fun t195 => (some t195)) else (some false))) else (none)) else (some false)) = some r := H
                  have A36 := Aside0.mk A360
                  clear A360
                  by_cases c37 : (t193 == ((t190.length : Int) == (t185.length : Int))) = true
                  · rw [if_pos c37] at H
                    have c37b0 : (t193 == ((t190.length : Int) == (t185.length : Int))) = true := c37
                    (try (have c37b1 : decide (t193 = ((t190.length : Int) == (t185.length : Int))) = true := by simpa using c37))
                    (try (have c37b2 : (t193 == ((t190.length : Int) == (t185.length : Int))) = true := by simpa using c37))
                    clear c37
                    by_cases c38 : x8_1.size + 3 ≤ 9223372036854775807
                    · rw [if_pos c38] at H
                      have c38b0 := eq_true c38
                      have c38b1 : decide (x8_1.size + 3 ≤ 9223372036854775807) = true := decide_eq_true c38
                      try have c38b2 : (9223372036854775807 < x8_1.size + 3) = False := eq_false (Nat.not_lt.2 c38)
                      replace H := Option.bind_eq_some_iff.mp H
                      obtain ⟨t194, A390, H⟩ := H
                      replace H : (if (t194 == (decide ((t190.length : Int) > (t185.length : Int)))) = true then ((label_Match.f k1 x8_1 bx5_a0).bind fun t195 => (some t195)) else (some false)) = some r := H
                      have A39 := Aside0.mk A390
                      clear A390
                      by_cases c40 : (t194 == (decide ((t190.length : Int) > (t185.length : Int)))) = true
                      · rw [if_pos c40] at H
                        have c40b0 : (t194 == (decide ((t190.length : Int) > (t185.length : Int)))) = true := c40
                        have c40n : t194 = decide (t185.length < t190.length) := by simpa using c40b0
                        (try (have c40b1 : decide (t194 = (decide ((t190.length : Int) > (t185.length : Int)))) = true := by simpa using c40))
                        (try (have c40b2 : (t194 == (decide ((t190.length : Int) > (t185.length : Int)))) = true := by simpa using c40))
                        clear c40
                        replace H := Option.bind_eq_some_iff.mp H
                        obtain ⟨t195, A410, H⟩ := H
                        replace H : (some t195) = some r := H
                        have A41 := Aside0.mk A410
                        clear A410
                        obtain rfl := Option.some.inj H
                        obtain ⟨Ao42, co42, eo42⟩ := Kd.R_slice HO_6.out
                        subst eo42
                        go_wp2_with (first | ((with_reducible refine gate_callee (f := 18) rfl ?_); refine goesL_ (some 50) rfl rfl Tryd.func18 (by kernel_rfl) rfl #[.string a1] rfl (by (try simp only [List.map_toArray, List.map_cons, List.map_nil]); first | done | rfl | (simp only [List.length_drop, List.length_take]; rfl)) ?_; (with_reducible refine (Go.Proofs.YtipfiodeakapdaaDoor.R.Parts.calls a1 t190 _ A33.out).mono ?_); rintro e w43 ⟨v191, rfl, ho0, hb⟩; refine ⟨_, rfl, ?_⟩; have n0_ := Aside0.mk (Kd.R_elder' (by (with_reducible repeat (first | apply Kd.R_alloc | apply Kd.R_drewN | apply Kd.R_drew)); exact HO_6.out) (Kd.R_base ho0) hb); have n1_ := Aside0.mk (Kd.R_lower (Kd.R_new' ho0 (Kd.R_lt (by (with_reducible repeat (first | apply Kd.R_alloc | apply Kd.R_drewN | apply Kd.R_drew)); exact HO_6.out))) (below_size (by repeat (first | (with_reducible first | exact HB.out | apply below_alloc | apply pw_below_drewN | apply below_drew1) | exact HB.out)))); have n2_ := Aside0.mk (below_step (by repeat (first | (with_reducible first | exact HB.out | apply below_alloc | apply pw_below_drewN | apply below_drew1) | exact HB.out)) hb); clear HO_6; clear HB; have HO_6 := n0_; have HO192 := n1_; have HB := n2_; clear n0_ n1_ n2_; (try clear hb); (try clear hb2); (try clear hk); (try clear hi); (try clear ho0); obtain ⟨Ao44, co44, eo44⟩ := Kd.R_slice HO192.out; subst eo44) | (go_at_call 20; (with_reducible refine (label_Match.calls k1 x8_1 a1 t193 _ A36.out).mono ?_); rintro e w45 ⟨rfl, hb⟩; have n0_ := Aside0.mk (Kd.R_below (by (with_reducible repeat (first | apply Kd.R_alloc | apply Kd.R_drewN | apply Kd.R_drew)); exact HO_6.out) hb); have n1_ := Aside0.mk (Kd.R_below (by (with_reducible repeat (first | apply Kd.R_alloc | apply Kd.R_drewN | apply Kd.R_drew)); exact HO192.out) hb); have n2_ := Aside0.mk (below_step (by repeat (first | (with_reducible first | exact HB.out | apply below_alloc | apply pw_below_drewN | apply below_drew1) | exact HB.out)) hb); clear HO_6; clear HO192; clear HB; have HO_6 := n0_; have HO192 := n1_; have HB := n2_; clear n0_ n1_ n2_; (try clear hb); (try clear hb2); (try clear hk); (try clear hi)) | (go_at_call 20; (with_reducible refine (label_Match.calls k1 (x8_1 ++ (⟨#[46, 42, 42]⟩ : ByteArray)) a1 t194 _ A39.out).mono ?_); rintro e w46 ⟨rfl, hb⟩; have n0_ := Aside0.mk (Kd.R_below (by (with_reducible repeat (first | apply Kd.R_alloc | apply Kd.R_drewN | apply Kd.R_drew)); exact HO_6.out) hb); have n1_ := Aside0.mk (Kd.R_below (by (with_reducible repeat (first | apply Kd.R_alloc | apply Kd.R_drewN | apply Kd.R_drew)); exact HO192.out) hb); have n2_ := Aside0.mk (below_step (by repeat (first | (with_reducible first | exact HB.out | apply below_alloc | apply pw_below_drewN | apply below_drew1) | exact HB.out)) hb); clear HO_6; clear HO192; clear HB; have HO_6 := n0_; have HO192 := n1_; have HB := n2_; clear n0_ n1_ n2_; (try clear hb); (try clear hb2); (try clear hk); (try clear hi)) | (go_at_call 20; (with_reducible refine (label_Match.calls k1 x8_1 bx5_a0 t195 _ A41.out).mono ?_); rintro e w47 ⟨rfl, hb⟩; have n0_ := Aside0.mk (Kd.R_below (by (with_reducible repeat (first | apply Kd.R_alloc | apply Kd.R_drewN | apply Kd.R_drew)); exact HO_6.out) hb); have n1_ := Aside0.mk (Kd.R_below (by (with_reducible repeat (first | apply Kd.R_alloc | apply Kd.R_drewN | apply Kd.R_drew)); exact HO192.out) hb); have n2_ := Aside0.mk (below_step (by repeat (first | (with_reducible first | exact HB.out | apply below_alloc | apply pw_below_drewN | apply below_drew1) | exact HB.out)) hb); clear HO_6; clear HO192; clear HB; have HO_6 := n0_; have HO192 := n1_; have HB := n2_; clear n0_ n1_ n2_; (try clear hb); (try clear hb2); (try clear hk); (try clear hi)))
                        go_ret
                        exact ⟨by first | rfl | (simp [errW_none, errW_some] <;> rfl) | (simp only [← hji5]; first | rfl | (simp [errW_none, errW_some] <;> rfl)) | (simp [*, errW_none, errW_some] <;> rfl), by repeat (first | (with_reducible first | exact HB.out | apply below_alloc | apply pw_below_drewN | apply below_drew1) | exact HB.out)⟩
                      · rw [if_neg c40] at H
                        have c40b0 : (t194 == (decide ((t190.length : Int) > (t185.length : Int)))) = false := by simpa using c40
                        have c40n : ¬ t194 = decide (t185.length < t190.length) := by simpa using c40b0
                        (try (have c40b1 : decide (t194 = (decide ((t190.length : Int) > (t185.length : Int)))) = false := by simpa using c40))
                        (try (have c40b2 : (t194 == (decide ((t190.length : Int) > (t185.length : Int)))) = false := by simpa using c40))
                        (try (have c40b3 : ¬ (t194 = (decide ((t190.length : Int) > (t185.length : Int)))) := by simpa using c40))
                        clear c40
                        obtain rfl := Option.some.inj H
                        obtain ⟨Ao48, co48, eo48⟩ := Kd.R_slice HO_6.out
                        subst eo48
                        go_wp2_with (first | ((with_reducible refine gate_callee (f := 18) rfl ?_); refine goesL_ (some 50) rfl rfl Tryd.func18 (by kernel_rfl) rfl #[.string a1] rfl (by (try simp only [List.map_toArray, List.map_cons, List.map_nil]); first | done | rfl | (simp only [List.length_drop, List.length_take]; rfl)) ?_; (with_reducible refine (Go.Proofs.YtipfiodeakapdaaDoor.R.Parts.calls a1 t190 _ A33.out).mono ?_); rintro e w49 ⟨v191, rfl, ho0, hb⟩; refine ⟨_, rfl, ?_⟩; have n0_ := Aside0.mk (Kd.R_elder' (by (with_reducible repeat (first | apply Kd.R_alloc | apply Kd.R_drewN | apply Kd.R_drew)); exact HO_6.out) (Kd.R_base ho0) hb); have n1_ := Aside0.mk (Kd.R_lower (Kd.R_new' ho0 (Kd.R_lt (by (with_reducible repeat (first | apply Kd.R_alloc | apply Kd.R_drewN | apply Kd.R_drew)); exact HO_6.out))) (below_size (by repeat (first | (with_reducible first | exact HB.out | apply below_alloc | apply pw_below_drewN | apply below_drew1) | exact HB.out)))); have n2_ := Aside0.mk (below_step (by repeat (first | (with_reducible first | exact HB.out | apply below_alloc | apply pw_below_drewN | apply below_drew1) | exact HB.out)) hb); clear HO_6; clear HB; have HO_6 := n0_; have HO192 := n1_; have HB := n2_; clear n0_ n1_ n2_; (try clear hb); (try clear hb2); (try clear hk); (try clear hi); (try clear ho0); obtain ⟨Ao50, co50, eo50⟩ := Kd.R_slice HO192.out; subst eo50) | (go_at_call 20; (with_reducible refine (label_Match.calls k1 x8_1 a1 t193 _ A36.out).mono ?_); rintro e w51 ⟨rfl, hb⟩; have n0_ := Aside0.mk (Kd.R_below (by (with_reducible repeat (first | apply Kd.R_alloc | apply Kd.R_drewN | apply Kd.R_drew)); exact HO_6.out) hb); have n1_ := Aside0.mk (Kd.R_below (by (with_reducible repeat (first | apply Kd.R_alloc | apply Kd.R_drewN | apply Kd.R_drew)); exact HO192.out) hb); have n2_ := Aside0.mk (below_step (by repeat (first | (with_reducible first | exact HB.out | apply below_alloc | apply pw_below_drewN | apply below_drew1) | exact HB.out)) hb); clear HO_6; clear HO192; clear HB; have HO_6 := n0_; have HO192 := n1_; have HB := n2_; clear n0_ n1_ n2_; (try clear hb); (try clear hb2); (try clear hk); (try clear hi)) | (go_at_call 20; (with_reducible refine (label_Match.calls k1 (x8_1 ++ (⟨#[46, 42, 42]⟩ : ByteArray)) a1 t194 _ A39.out).mono ?_); rintro e w52 ⟨rfl, hb⟩; have n0_ := Aside0.mk (Kd.R_below (by (with_reducible repeat (first | apply Kd.R_alloc | apply Kd.R_drewN | apply Kd.R_drew)); exact HO_6.out) hb); have n1_ := Aside0.mk (Kd.R_below (by (with_reducible repeat (first | apply Kd.R_alloc | apply Kd.R_drewN | apply Kd.R_drew)); exact HO192.out) hb); have n2_ := Aside0.mk (below_step (by repeat (first | (with_reducible first | exact HB.out | apply below_alloc | apply pw_below_drewN | apply below_drew1) | exact HB.out)) hb); clear HO_6; clear HO192; clear HB; have HO_6 := n0_; have HO192 := n1_; have HB := n2_; clear n0_ n1_ n2_; (try clear hb); (try clear hb2); (try clear hk); (try clear hi)))
                        go_ret
                        exact ⟨by first | rfl | (simp [errW_none, errW_some] <;> rfl) | (simp only [← hji5]; first | rfl | (simp [errW_none, errW_some] <;> rfl)) | (simp [*, errW_none, errW_some] <;> rfl), by repeat (first | (with_reducible first | exact HB.out | apply below_alloc | apply pw_below_drewN | apply below_drew1) | exact HB.out)⟩
                    · rw [if_neg c38] at H
                      exact absurd H (by simp)
                  · rw [if_neg c37] at H
                    have c37b0 : (t193 == ((t190.length : Int) == (t185.length : Int))) = false := by simpa using c37
                    (try (have c37b1 : decide (t193 = ((t190.length : Int) == (t185.length : Int))) = false := by simpa using c37))
                    (try (have c37b2 : (t193 == ((t190.length : Int) == (t185.length : Int))) = false := by simpa using c37))
                    (try (have c37b3 : ¬ (t193 = ((t190.length : Int) == (t185.length : Int))) := by simpa using c37))
                    clear c37
                    obtain rfl := Option.some.inj H
                    obtain ⟨Ao53, co53, eo53⟩ := Kd.R_slice HO_6.out
                    subst eo53
                    go_wp2_with (first | ((with_reducible refine gate_callee (f := 18) rfl ?_); refine goesL_ (some 50) rfl rfl Tryd.func18 (by kernel_rfl) rfl #[.string a1] rfl (by (try simp only [List.map_toArray, List.map_cons, List.map_nil]); first | done | rfl | (simp only [List.length_drop, List.length_take]; rfl)) ?_; (with_reducible refine (Go.Proofs.YtipfiodeakapdaaDoor.R.Parts.calls a1 t190 _ A33.out).mono ?_); rintro e w54 ⟨v191, rfl, ho0, hb⟩; refine ⟨_, rfl, ?_⟩; have n0_ := Aside0.mk (Kd.R_elder' (by (with_reducible repeat (first | apply Kd.R_alloc | apply Kd.R_drewN | apply Kd.R_drew)); exact HO_6.out) (Kd.R_base ho0) hb); have n1_ := Aside0.mk (Kd.R_lower (Kd.R_new' ho0 (Kd.R_lt (by (with_reducible repeat (first | apply Kd.R_alloc | apply Kd.R_drewN | apply Kd.R_drew)); exact HO_6.out))) (below_size (by repeat (first | (with_reducible first | exact HB.out | apply below_alloc | apply pw_below_drewN | apply below_drew1) | exact HB.out)))); have n2_ := Aside0.mk (below_step (by repeat (first | (with_reducible first | exact HB.out | apply below_alloc | apply pw_below_drewN | apply below_drew1) | exact HB.out)) hb); clear HO_6; clear HB; have HO_6 := n0_; have HO192 := n1_; have HB := n2_; clear n0_ n1_ n2_; (try clear hb); (try clear hb2); (try clear hk); (try clear hi); (try clear ho0); obtain ⟨Ao55, co55, eo55⟩ := Kd.R_slice HO192.out; subst eo55) | (go_at_call 20; (with_reducible refine (label_Match.calls k1 x8_1 a1 t193 _ A36.out).mono ?_); rintro e w56 ⟨rfl, hb⟩; have n0_ := Aside0.mk (Kd.R_below (by (with_reducible repeat (first | apply Kd.R_alloc | apply Kd.R_drewN | apply Kd.R_drew)); exact HO_6.out) hb); have n1_ := Aside0.mk (Kd.R_below (by (with_reducible repeat (first | apply Kd.R_alloc | apply Kd.R_drewN | apply Kd.R_drew)); exact HO192.out) hb); have n2_ := Aside0.mk (below_step (by repeat (first | (with_reducible first | exact HB.out | apply below_alloc | apply pw_below_drewN | apply below_drew1) | exact HB.out)) hb); clear HO_6; clear HO192; clear HB; have HO_6 := n0_; have HO192 := n1_; have HB := n2_; clear n0_ n1_ n2_; (try clear hb); (try clear hb2); (try clear hk); (try clear hi)))
                    go_ret
                    exact ⟨by first | rfl | (simp [errW_none, errW_some] <;> rfl) | (simp only [← hji5]; first | rfl | (simp [errW_none, errW_some] <;> rfl)) | (simp [*, errW_none, errW_some] <;> rfl), by repeat (first | (with_reducible first | exact HB.out | apply below_alloc | apply pw_below_drewN | apply below_drew1) | exact HB.out)⟩
                · exact absurd rfl c35
              · replace c34 := Bool.eq_false_iff.mpr c34
                subst c34
                have H1 : ((label_Match.f k1 bx5_a0 a1).bind fun t196 => (if true = true then (if (t196 == (bx5_a0.toList == a1.toList)) = true then ((label_Match.f k1 x8_1 a1).bind fun t197 => (if (t197 == ((t190.length : Int) == (t185.length : Int))) = true then (if x8_1.size + 3 ≤ 9223372036854775807 then ((label_Match.f k1 (x8_1 ++ (⟨#[46, 42, 42]⟩ : ByteArray)) a1).bind fun t198 => (if (t198 == (decide ((t190.length : Int) > (t185.length : Int)))) = true then ((label_Match.f k1 x8_1 bx5_a0).bind fun t199 => (some t199)) else (some false))) else (none)) else (some false))) else (some false)) else (some false))) = some r := by rw [if_neg (show ¬ (false = true) by decide)] at H; exact H
                clear H
                have H := H1
                clear H1
                replace H := Option.bind_eq_some_iff.mp H
                obtain ⟨t196, A600, H⟩ := H
                replace H : (if true = true then (if (t196 == (bx5_a0.toList == a1.toList)) = true then ((label_Match.f k1 x8_1 a1).bind fun t197 => (if (t197 == ((t190.length : Int) == (t185.length : Int))) = true then (if x8_1.size + 3 ≤ 9223372036854775807 then ((label_Match.f k1 (x8_1 ++ (⟨#[46, 42, 42]⟩ : ByteArray)) a1).bind fun t198 => (if (t198 == (decide ((t190.length : Int) > (t185.length : Int)))) = true then ((label_Match.f k1 x8_1 bx5_a0).bind fun t199 => (some t199)) else (some false))) else (none)) else (some false))) else (some false)) else (some false)) = some r := H
                have A60 := Aside0.mk A600
                clear A600
                by_cases c61 : true = true
                · clear c61
                  have H1 : (if (t196 == (bx5_a0.toList == a1.toList)) = true then ((label_Match.f k1 x8_1 a1).bind fun t197 => (if (t197 == ((t190.length : Int) == (t185.length : Int))) = true then (if x8_1.size + 3 ≤ 9223372036854775807 then ((label_Match.f k1 (x8_1 ++ (⟨#[46, 42, 42]⟩ : ByteArray)) a1).bind fun t198 => (if (t198 == (decide ((t190.length : Int) > (t185.length : Int)))) = true then ((label_Match.f k1 x8_1 bx5_a0).bind fun t199 => (some t199)) else (some false))) else (none)) else (some false))) else (some false)) = some r := by first | (rw [if_pos rfl] at H; exact H) | (rw [if_pos trivial] at H; exact H)
                  clear H
                  have H := H1
                  clear H1
                  by_cases c62 : (t196 == (bx5_a0.toList == a1.toList)) = true
                  · rw [if_pos c62] at H
                    have c62b0 : (t196 == (bx5_a0.toList == a1.toList)) = true := c62
                    (try (have c62b1 : decide (t196 = (bx5_a0.toList == a1.toList)) = true := by simpa using c62))
                    (try (have c62b2 : (t196 == (bx5_a0.toList == a1.toList)) = true := by simpa using c62))
                    clear c62
                    replace H := Option.bind_eq_some_iff.mp H
                    obtain ⟨t197, A630, H⟩ := H
                    replace H : (if (t197 == ((t190.length : Int) == (t185.length : Int))) = true then (if x8_1.size + 3 ≤ 9223372036854775807 then ((label_Match.f k1 (x8_1 ++ (⟨#[46, 42, 42]⟩ : ByteArray)) a1).bind fun t198 => (if (t198 == (decide ((t190.length : Int) > (t185.length : Int)))) = true then ((label_Match.f k1 x8_1 bx5_a0).bind fun t199 => (some t199)) else (some false))) else (none)) else (some false)) = some r := H
                    have A63 := Aside0.mk A630
                    clear A630
                    by_cases c64 : (t197 == ((t190.length : Int) == (t185.length : Int))) = true
                    · rw [if_pos c64] at H
                      have c64b0 : (t197 == ((t190.length : Int) == (t185.length : Int))) = true := c64
                      (try (have c64b1 : decide (t197 = ((t190.length : Int) == (t185.length : Int))) = true := by simpa using c64))
                      (try (have c64b2 : (t197 == ((t190.length : Int) == (t185.length : Int))) = true := by simpa using c64))
                      clear c64
                      by_cases c65 : x8_1.size + 3 ≤ 9223372036854775807
                      · rw [if_pos c65] at H
                        have c65b0 := eq_true c65
                        have c65b1 : decide (x8_1.size + 3 ≤ 9223372036854775807) = true := decide_eq_true c65
                        try have c65b2 : (9223372036854775807 < x8_1.size + 3) = False := eq_false (Nat.not_lt.2 c65)
                        replace H := Option.bind_eq_some_iff.mp H
                        obtain ⟨t198, A660, H⟩ := H
                        replace H : (if (t198 == (decide ((t190.length : Int) > (t185.length : Int)))) = true then ((label_Match.f k1 x8_1 bx5_a0).bind fun t199 => (some t199)) else (some false)) = some r := H
                        have A66 := Aside0.mk A660
                        clear A660
                        by_cases c67 : (t198 == (decide ((t190.length : Int) > (t185.length : Int)))) = true
                        · rw [if_pos c67] at H
                          have c67b0 : (t198 == (decide ((t190.length : Int) > (t185.length : Int)))) = true := c67
                          have c67n : t198 = decide (t185.length < t190.length) := by simpa using c67b0
                          (try (have c67b1 : decide (t198 = (decide ((t190.length : Int) > (t185.length : Int)))) = true := by simpa using c67))
                          (try (have c67b2 : (t198 == (decide ((t190.length : Int) > (t185.length : Int)))) = true := by simpa using c67))
                          clear c67
                          replace H := Option.bind_eq_some_iff.mp H
                          obtain ⟨t199, A680, H⟩ := H
                          replace H : (some t199) = some r := H
                          have A68 := Aside0.mk A680
                          clear A680
                          obtain rfl := Option.some.inj H
                          obtain ⟨Ao69, co69, eo69⟩ := Kd.R_slice HO_6.out
                          subst eo69
                          go_wp2_with (first | ((with_reducible refine gate_callee (f := 18) rfl ?_); refine goesL_ (some 50) rfl rfl Tryd.func18 (by kernel_rfl) rfl #[.string a1] rfl (by (try simp only [List.map_toArray, List.map_cons, List.map_nil]); first | done | rfl | (simp only [List.length_drop, List.length_take]; rfl)) ?_; (with_reducible refine (Go.Proofs.YtipfiodeakapdaaDoor.R.Parts.calls a1 t190 _ A33.out).mono ?_); rintro e w70 ⟨v191, rfl, ho0, hb⟩; refine ⟨_, rfl, ?_⟩; have n0_ := Aside0.mk (Kd.R_elder' (by (with_reducible repeat (first | apply Kd.R_alloc | apply Kd.R_drewN | apply Kd.R_drew)); exact HO_6.out) (Kd.R_base ho0) hb); have n1_ := Aside0.mk (Kd.R_lower (Kd.R_new' ho0 (Kd.R_lt (by (with_reducible repeat (first | apply Kd.R_alloc | apply Kd.R_drewN | apply Kd.R_drew)); exact HO_6.out))) (below_size (by repeat (first | (with_reducible first | exact HB.out | apply below_alloc | apply pw_below_drewN | apply below_drew1) | exact HB.out)))); have n2_ := Aside0.mk (below_step (by repeat (first | (with_reducible first | exact HB.out | apply below_alloc | apply pw_below_drewN | apply below_drew1) | exact HB.out)) hb); clear HO_6; clear HB; have HO_6 := n0_; have HO192 := n1_; have HB := n2_; clear n0_ n1_ n2_; (try clear hb); (try clear hb2); (try clear hk); (try clear hi); (try clear ho0); obtain ⟨Ao71, co71, eo71⟩ := Kd.R_slice HO192.out; subst eo71) | (go_at_call 20; (with_reducible refine (label_Match.calls k1 bx5_a0 a1 t196 _ A60.out).mono ?_); rintro e w72 ⟨rfl, hb⟩; have n0_ := Aside0.mk (Kd.R_below (by (with_reducible repeat (first | apply Kd.R_alloc | apply Kd.R_drewN | apply Kd.R_drew)); exact HO_6.out) hb); have n1_ := Aside0.mk (Kd.R_below (by (with_reducible repeat (first | apply Kd.R_alloc | apply Kd.R_drewN | apply Kd.R_drew)); exact HO192.out) hb); have n2_ := Aside0.mk (below_step (by repeat (first | (with_reducible first | exact HB.out | apply below_alloc | apply pw_below_drewN | apply below_drew1) | exact HB.out)) hb); clear HO_6; clear HO192; clear HB; have HO_6 := n0_; have HO192 := n1_; have HB := n2_; clear n0_ n1_ n2_; (try clear hb); (try clear hb2); (try clear hk); (try clear hi)) | (go_at_call 20; (with_reducible refine (label_Match.calls k1 x8_1 a1 t197 _ A63.out).mono ?_); rintro e w73 ⟨rfl, hb⟩; have n0_ := Aside0.mk (Kd.R_below (by (with_reducible repeat (first | apply Kd.R_alloc | apply Kd.R_drewN | apply Kd.R_drew)); exact HO_6.out) hb); have n1_ := Aside0.mk (Kd.R_below (by (with_reducible repeat (first | apply Kd.R_alloc | apply Kd.R_drewN | apply Kd.R_drew)); exact HO192.out) hb); have n2_ := Aside0.mk (below_step (by repeat (first | (with_reducible first | exact HB.out | apply below_alloc | apply pw_below_drewN | apply below_drew1) | exact HB.out)) hb); clear HO_6; clear HO192; clear HB; have HO_6 := n0_; have HO192 := n1_; have HB := n2_; clear n0_ n1_ n2_; (try clear hb); (try clear hb2); (try clear hk); (try clear hi)) | (go_at_call 20; (with_reducible refine (label_Match.calls k1 (x8_1 ++ (⟨#[46, 42, 42]⟩ : ByteArray)) a1 t198 _ A66.out).mono ?_); rintro e w74 ⟨rfl, hb⟩; have n0_ := Aside0.mk (Kd.R_below (by (with_reducible repeat (first | apply Kd.R_alloc | apply Kd.R_drewN | apply Kd.R_drew)); exact HO_6.out) hb); have n1_ := Aside0.mk (Kd.R_below (by (with_reducible repeat (first | apply Kd.R_alloc | apply Kd.R_drewN | apply Kd.R_drew)); exact HO192.out) hb); have n2_ := Aside0.mk (below_step (by repeat (first | (with_reducible first | exact HB.out | apply below_alloc | apply pw_below_drewN | apply below_drew1) | exact HB.out)) hb); clear HO_6; clear HO192; clear HB; have HO_6 := n0_; have HO192 := n1_; have HB := n2_; clear n0_ n1_ n2_; (try clear hb); (try clear hb2); (try clear hk); (try clear hi)) | (go_at_call 20; (with_reducible refine (label_Match.calls k1 x8_1 bx5_a0 t199 _ A68.out).mono ?_); rintro e w75 ⟨rfl, hb⟩; have n0_ := Aside0.mk (Kd.R_below (by (with_reducible repeat (first | apply Kd.R_alloc | apply Kd.R_drewN | apply Kd.R_drew)); exact HO_6.out) hb); have n1_ := Aside0.mk (Kd.R_below (by (with_reducible repeat (first | apply Kd.R_alloc | apply Kd.R_drewN | apply Kd.R_drew)); exact HO192.out) hb); have n2_ := Aside0.mk (below_step (by repeat (first | (with_reducible first | exact HB.out | apply below_alloc | apply pw_below_drewN | apply below_drew1) | exact HB.out)) hb); clear HO_6; clear HO192; clear HB; have HO_6 := n0_; have HO192 := n1_; have HB := n2_; clear n0_ n1_ n2_; (try clear hb); (try clear hb2); (try clear hk); (try clear hi)))
                          go_ret
                          exact ⟨by first | rfl | (simp [errW_none, errW_some] <;> rfl) | (simp only [← hji5]; first | rfl | (simp [errW_none, errW_some] <;> rfl)) | (simp [*, errW_none, errW_some] <;> rfl), by repeat (first | (with_reducible first | exact HB.out | apply below_alloc | apply pw_below_drewN | apply below_drew1) | exact HB.out)⟩
                        · rw [if_neg c67] at H
                          have c67b0 : (t198 == (decide ((t190.length : Int) > (t185.length : Int)))) = false := by simpa using c67
                          have c67n : ¬ t198 = decide (t185.length < t190.length) := by simpa using c67b0
                          (try (have c67b1 : decide (t198 = (decide ((t190.length : Int) > (t185.length : Int)))) = false := by simpa using c67))
                          (try (have c67b2 : (t198 == (decide ((t190.length : Int) > (t185.length : Int)))) = false := by simpa using c67))
                          (try (have c67b3 : ¬ (t198 = (decide ((t190.length : Int) > (t185.length : Int)))) := by simpa using c67))
                          clear c67
                          obtain rfl := Option.some.inj H
                          obtain ⟨Ao76, co76, eo76⟩ := Kd.R_slice HO_6.out
                          subst eo76
                          go_wp2_with (first | ((with_reducible refine gate_callee (f := 18) rfl ?_); refine goesL_ (some 50) rfl rfl Tryd.func18 (by kernel_rfl) rfl #[.string a1] rfl (by (try simp only [List.map_toArray, List.map_cons, List.map_nil]); first | done | rfl | (simp only [List.length_drop, List.length_take]; rfl)) ?_; (with_reducible refine (Go.Proofs.YtipfiodeakapdaaDoor.R.Parts.calls a1 t190 _ A33.out).mono ?_); rintro e w77 ⟨v191, rfl, ho0, hb⟩; refine ⟨_, rfl, ?_⟩; have n0_ := Aside0.mk (Kd.R_elder' (by (with_reducible repeat (first | apply Kd.R_alloc | apply Kd.R_drewN | apply Kd.R_drew)); exact HO_6.out) (Kd.R_base ho0) hb); have n1_ := Aside0.mk (Kd.R_lower (Kd.R_new' ho0 (Kd.R_lt (by (with_reducible repeat (first | apply Kd.R_alloc | apply Kd.R_drewN | apply Kd.R_drew)); exact HO_6.out))) (below_size (by repeat (first | (with_reducible first | exact HB.out | apply below_alloc | apply pw_below_drewN | apply below_drew1) | exact HB.out)))); have n2_ := Aside0.mk (below_step (by repeat (first | (with_reducible first | exact HB.out | apply below_alloc | apply pw_below_drewN | apply below_drew1) | exact HB.out)) hb); clear HO_6; clear HB; have HO_6 := n0_; have HO192 := n1_; have HB := n2_; clear n0_ n1_ n2_; (try clear hb); (try clear hb2); (try clear hk); (try clear hi); (try clear ho0); obtain ⟨Ao78, co78, eo78⟩ := Kd.R_slice HO192.out; subst eo78) | (go_at_call 20; (with_reducible refine (label_Match.calls k1 bx5_a0 a1 t196 _ A60.out).mono ?_); rintro e w79 ⟨rfl, hb⟩; have n0_ := Aside0.mk (Kd.R_below (by (with_reducible repeat (first | apply Kd.R_alloc | apply Kd.R_drewN | apply Kd.R_drew)); exact HO_6.out) hb); have n1_ := Aside0.mk (Kd.R_below (by (with_reducible repeat (first | apply Kd.R_alloc | apply Kd.R_drewN | apply Kd.R_drew)); exact HO192.out) hb); have n2_ := Aside0.mk (below_step (by repeat (first | (with_reducible first | exact HB.out | apply below_alloc | apply pw_below_drewN | apply below_drew1) | exact HB.out)) hb); clear HO_6; clear HO192; clear HB; have HO_6 := n0_; have HO192 := n1_; have HB := n2_; clear n0_ n1_ n2_; (try clear hb); (try clear hb2); (try clear hk); (try clear hi)) | (go_at_call 20; (with_reducible refine (label_Match.calls k1 x8_1 a1 t197 _ A63.out).mono ?_); rintro e w80 ⟨rfl, hb⟩; have n0_ := Aside0.mk (Kd.R_below (by (with_reducible repeat (first | apply Kd.R_alloc | apply Kd.R_drewN | apply Kd.R_drew)); exact HO_6.out) hb); have n1_ := Aside0.mk (Kd.R_below (by (with_reducible repeat (first | apply Kd.R_alloc | apply Kd.R_drewN | apply Kd.R_drew)); exact HO192.out) hb); have n2_ := Aside0.mk (below_step (by repeat (first | (with_reducible first | exact HB.out | apply below_alloc | apply pw_below_drewN | apply below_drew1) | exact HB.out)) hb); clear HO_6; clear HO192; clear HB; have HO_6 := n0_; have HO192 := n1_; have HB := n2_; clear n0_ n1_ n2_; (try clear hb); (try clear hb2); (try clear hk); (try clear hi)) | (go_at_call 20; (with_reducible refine (label_Match.calls k1 (x8_1 ++ (⟨#[46, 42, 42]⟩ : ByteArray)) a1 t198 _ A66.out).mono ?_); rintro e w81 ⟨rfl, hb⟩; have n0_ := Aside0.mk (Kd.R_below (by (with_reducible repeat (first | apply Kd.R_alloc | apply Kd.R_drewN | apply Kd.R_drew)); exact HO_6.out) hb); have n1_ := Aside0.mk (Kd.R_below (by (with_reducible repeat (first | apply Kd.R_alloc | apply Kd.R_drewN | apply Kd.R_drew)); exact HO192.out) hb); have n2_ := Aside0.mk (below_step (by repeat (first | (with_reducible first | exact HB.out | apply below_alloc | apply pw_below_drewN | apply below_drew1) | exact HB.out)) hb); clear HO_6; clear HO192; clear HB; have HO_6 := n0_; have HO192 := n1_; have HB := n2_; clear n0_ n1_ n2_; (try clear hb); (try clear hb2); (try clear hk); (try clear hi)))
                          go_ret
                          exact ⟨by first | rfl | (simp [errW_none, errW_some] <;> rfl) | (simp only [← hji5]; first | rfl | (simp [errW_none, errW_some] <;> rfl)) | (simp [*, errW_none, errW_some] <;> rfl), by repeat (first | (with_reducible first | exact HB.out | apply below_alloc | apply pw_below_drewN | apply below_drew1) | exact HB.out)⟩
                      · rw [if_neg c65] at H
                        exact absurd H (by simp)
                    · rw [if_neg c64] at H
                      have c64b0 : (t197 == ((t190.length : Int) == (t185.length : Int))) = false := by simpa using c64
                      (try (have c64b1 : decide (t197 = ((t190.length : Int) == (t185.length : Int))) = false := by simpa using c64))
                      (try (have c64b2 : (t197 == ((t190.length : Int) == (t185.length : Int))) = false := by simpa using c64))
                      (try (have c64b3 : ¬ (t197 = ((t190.length : Int) == (t185.length : Int))) := by simpa using c64))
                      clear c64
                      obtain rfl := Option.some.inj H
                      obtain ⟨Ao82, co82, eo82⟩ := Kd.R_slice HO_6.out
                      subst eo82
                      go_wp2_with (first | ((with_reducible refine gate_callee (f := 18) rfl ?_); refine goesL_ (some 50) rfl rfl Tryd.func18 (by kernel_rfl) rfl #[.string a1] rfl (by (try simp only [List.map_toArray, List.map_cons, List.map_nil]); first | done | rfl | (simp only [List.length_drop, List.length_take]; rfl)) ?_; (with_reducible refine (Go.Proofs.YtipfiodeakapdaaDoor.R.Parts.calls a1 t190 _ A33.out).mono ?_); rintro e w83 ⟨v191, rfl, ho0, hb⟩; refine ⟨_, rfl, ?_⟩; have n0_ := Aside0.mk (Kd.R_elder' (by (with_reducible repeat (first | apply Kd.R_alloc | apply Kd.R_drewN | apply Kd.R_drew)); exact HO_6.out) (Kd.R_base ho0) hb); have n1_ := Aside0.mk (Kd.R_lower (Kd.R_new' ho0 (Kd.R_lt (by (with_reducible repeat (first | apply Kd.R_alloc | apply Kd.R_drewN | apply Kd.R_drew)); exact HO_6.out))) (below_size (by repeat (first | (with_reducible first | exact HB.out | apply below_alloc | apply pw_below_drewN | apply below_drew1) | exact HB.out)))); have n2_ := Aside0.mk (below_step (by repeat (first | (with_reducible first | exact HB.out | apply below_alloc | apply pw_below_drewN | apply below_drew1) | exact HB.out)) hb); clear HO_6; clear HB; have HO_6 := n0_; have HO192 := n1_; have HB := n2_; clear n0_ n1_ n2_; (try clear hb); (try clear hb2); (try clear hk); (try clear hi); (try clear ho0); obtain ⟨Ao84, co84, eo84⟩ := Kd.R_slice HO192.out; subst eo84) | (go_at_call 20; (with_reducible refine (label_Match.calls k1 bx5_a0 a1 t196 _ A60.out).mono ?_); rintro e w85 ⟨rfl, hb⟩; have n0_ := Aside0.mk (Kd.R_below (by (with_reducible repeat (first | apply Kd.R_alloc | apply Kd.R_drewN | apply Kd.R_drew)); exact HO_6.out) hb); have n1_ := Aside0.mk (Kd.R_below (by (with_reducible repeat (first | apply Kd.R_alloc | apply Kd.R_drewN | apply Kd.R_drew)); exact HO192.out) hb); have n2_ := Aside0.mk (below_step (by repeat (first | (with_reducible first | exact HB.out | apply below_alloc | apply pw_below_drewN | apply below_drew1) | exact HB.out)) hb); clear HO_6; clear HO192; clear HB; have HO_6 := n0_; have HO192 := n1_; have HB := n2_; clear n0_ n1_ n2_; (try clear hb); (try clear hb2); (try clear hk); (try clear hi)) | (go_at_call 20; (with_reducible refine (label_Match.calls k1 x8_1 a1 t197 _ A63.out).mono ?_); rintro e w86 ⟨rfl, hb⟩; have n0_ := Aside0.mk (Kd.R_below (by (with_reducible repeat (first | apply Kd.R_alloc | apply Kd.R_drewN | apply Kd.R_drew)); exact HO_6.out) hb); have n1_ := Aside0.mk (Kd.R_below (by (with_reducible repeat (first | apply Kd.R_alloc | apply Kd.R_drewN | apply Kd.R_drew)); exact HO192.out) hb); have n2_ := Aside0.mk (below_step (by repeat (first | (with_reducible first | exact HB.out | apply below_alloc | apply pw_below_drewN | apply below_drew1) | exact HB.out)) hb); clear HO_6; clear HO192; clear HB; have HO_6 := n0_; have HO192 := n1_; have HB := n2_; clear n0_ n1_ n2_; (try clear hb); (try clear hb2); (try clear hk); (try clear hi)))
                      go_ret
                      exact ⟨by first | rfl | (simp [errW_none, errW_some] <;> rfl) | (simp only [← hji5]; first | rfl | (simp [errW_none, errW_some] <;> rfl)) | (simp [*, errW_none, errW_some] <;> rfl), by repeat (first | (with_reducible first | exact HB.out | apply below_alloc | apply pw_below_drewN | apply below_drew1) | exact HB.out)⟩
                  · rw [if_neg c62] at H
                    have c62b0 : (t196 == (bx5_a0.toList == a1.toList)) = false := by simpa using c62
                    (try (have c62b1 : decide (t196 = (bx5_a0.toList == a1.toList)) = false := by simpa using c62))
                    (try (have c62b2 : (t196 == (bx5_a0.toList == a1.toList)) = false := by simpa using c62))
                    (try (have c62b3 : ¬ (t196 = (bx5_a0.toList == a1.toList)) := by simpa using c62))
                    clear c62
                    obtain rfl := Option.some.inj H
                    obtain ⟨Ao87, co87, eo87⟩ := Kd.R_slice HO_6.out
                    subst eo87
                    go_wp2_with (first | ((with_reducible refine gate_callee (f := 18) rfl ?_); refine goesL_ (some 50) rfl rfl Tryd.func18 (by kernel_rfl) rfl #[.string a1] rfl (by (try simp only [List.map_toArray, List.map_cons, List.map_nil]); first | done | rfl | (simp only [List.length_drop, List.length_take]; rfl)) ?_; (with_reducible refine (Go.Proofs.YtipfiodeakapdaaDoor.R.Parts.calls a1 t190 _ A33.out).mono ?_); rintro e w88 ⟨v191, rfl, ho0, hb⟩; refine ⟨_, rfl, ?_⟩; have n0_ := Aside0.mk (Kd.R_elder' (by (with_reducible repeat (first | apply Kd.R_alloc | apply Kd.R_drewN | apply Kd.R_drew)); exact HO_6.out) (Kd.R_base ho0) hb); have n1_ := Aside0.mk (Kd.R_lower (Kd.R_new' ho0 (Kd.R_lt (by (with_reducible repeat (first | apply Kd.R_alloc | apply Kd.R_drewN | apply Kd.R_drew)); exact HO_6.out))) (below_size (by repeat (first | (with_reducible first | exact HB.out | apply below_alloc | apply pw_below_drewN | apply below_drew1) | exact HB.out)))); have n2_ := Aside0.mk (below_step (by repeat (first | (with_reducible first | exact HB.out | apply below_alloc | apply pw_below_drewN | apply below_drew1) | exact HB.out)) hb); clear HO_6; clear HB; have HO_6 := n0_; have HO192 := n1_; have HB := n2_; clear n0_ n1_ n2_; (try clear hb); (try clear hb2); (try clear hk); (try clear hi); (try clear ho0); obtain ⟨Ao89, co89, eo89⟩ := Kd.R_slice HO192.out; subst eo89) | (go_at_call 20; (with_reducible refine (label_Match.calls k1 bx5_a0 a1 t196 _ A60.out).mono ?_); rintro e w90 ⟨rfl, hb⟩; have n0_ := Aside0.mk (Kd.R_below (by (with_reducible repeat (first | apply Kd.R_alloc | apply Kd.R_drewN | apply Kd.R_drew)); exact HO_6.out) hb); have n1_ := Aside0.mk (Kd.R_below (by (with_reducible repeat (first | apply Kd.R_alloc | apply Kd.R_drewN | apply Kd.R_drew)); exact HO192.out) hb); have n2_ := Aside0.mk (below_step (by repeat (first | (with_reducible first | exact HB.out | apply below_alloc | apply pw_below_drewN | apply below_drew1) | exact HB.out)) hb); clear HO_6; clear HO192; clear HB; have HO_6 := n0_; have HO192 := n1_; have HB := n2_; clear n0_ n1_ n2_; (try clear hb); (try clear hb2); (try clear hk); (try clear hi)))
                    go_ret
                    exact ⟨by first | rfl | (simp [errW_none, errW_some] <;> rfl) | (simp only [← hji5]; first | rfl | (simp [errW_none, errW_some] <;> rfl)) | (simp [*, errW_none, errW_some] <;> rfl), by repeat (first | (with_reducible first | exact HB.out | apply below_alloc | apply pw_below_drewN | apply below_drew1) | exact HB.out)⟩
                · exact absurd rfl c61
      · rw [if_neg c7] at H
        exact absurd H (by simp)
    · rw [if_neg c6] at H
      exact absurd H (by simp)
  · replace c4 := Bool.eq_false_iff.mpr c4
    subst c4
    have H1 : (some false) = some r := by rw [if_neg (show ¬ (false = true) by decide)] at H; exact H
    clear H
    have H := H1
    clear H1
    obtain rfl := Option.some.inj H
    go_enter Tryd.func7, Tryd.ntmps7
    (try dsimp only [List.append])
    go_wp2_with (first | ((with_reducible refine gate_callee (f := 10) rfl ?_); refine goesL_ (some 12) rfl rfl Tryd.func10 (by kernel_rfl) rfl #[] rfl (by (try simp only [List.map_toArray, List.map_cons, List.map_nil]); first | done | rfl | (simp only [List.length_drop, List.length_take]; rfl)) ?_; (with_reducible refine (bailiwicklaw02_examples.calls k  false _ A3.out).mono ?_); rintro e w95 ⟨rfl, hb⟩; refine ⟨_, rfl, ?_⟩; have n0_ := Aside0.mk (below_step (by repeat (first | (with_reducible first | exact HB.out | apply below_alloc | apply pw_below_drewN | apply below_drew1) | exact HB.out)) hb); clear HB; have HB := n0_; clear n0_; (try clear hb); (try clear hb2); (try clear hk); (try clear hi)))
    go_ret
    exact ⟨by first | rfl | (simp [errW_none, errW_some] <;> rfl) | (simp [*, errW_none, errW_some] <;> rfl), by repeat (first | (with_reducible first | exact HB.out | apply below_alloc | apply pw_below_drewN | apply below_drew1) | exact HB.out)⟩

/-- THE ONE PURE STATEMENT of bailiwicklaw02_LabelStars: yours. -/
def bailiwicklaw02_LabelStars.Pure : Prop := ∀ (a0 : ByteArray) (a1 : ByteArray), a0.size ≤ 140737488351232 → a1.size ≤ 140737488351232 → ∃ k, bailiwicklaw02_LabelStars.f k a0 a1 = some true
theorem bailiwicklaw02_LabelStars.walk (P : bailiwicklaw02_LabelStars.Pure) (a0 : ByteArray) (a1 : ByteArray) (w : World) (w0 : a0.size ≤ 140737488351232) (w1 : a1.size ≤ 140737488351232) :
    Calls Tryd.prog 7 #[.string a0, .string a1] w fun e w' => e = .returned (.bool true) ∧ Below w.heap.size w w' := by
  obtain ⟨k, h⟩ := P a0 a1 w0 w1
  refine (bailiwicklaw02_LabelStars.calls k a0 a1 true w h).mono ?_
  rintro e w' ⟨rfl, hd⟩
  exact ⟨rfl, hd⟩

end Go.Proofs.YtipfiodeakapdaaDoor.O
