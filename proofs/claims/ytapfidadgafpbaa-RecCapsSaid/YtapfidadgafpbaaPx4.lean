-- Written by a program of this session (gp.py), which drives the print with some lines turned. Not trusted: Lean checks it.
import Derived.Test.YtapfidadgafpbaaPx0
import Derived.Test.YtapfidadgafpbaaPx2
namespace Go.Proofs.Ytapfidadgafpbaa.P
open Go.RowKit Go.Proofs.YtapfidadgafpbaaW.PrintWords Go.Proofs.YtapfidadgafpbaaW.PrintLast Go.Proofs.YtapfidadgafpbaaW.PrintMore
attribute [local go_sem] max2_int min2_int max_two min_two max_three min_three max_four min_four emod_u8 emod_u16 emod_u32
set_option linter.unusedVariables false
set_option linter.unusedSimpArgs false

/-! ### bailiwickref01_Take: function 40 -/
mutual
def bailiwickref01_Take.j0 : Nat → ByteArray → Int → Bool → Option (Int × ByteArray × Int)
  | 0, _, _, _ => none
  | k + 1, x0, x1, x14 => if x14 = true then (some (0, (⟨#[]⟩ : ByteArray), 1)) else (if (x0.size : Int) < x1 then (some (0, (⟨#[]⟩ : ByteArray), 2)) else (bailiwickref01_Take.l0 k x0 x1 0 0))
def bailiwickref01_Take.l0 : Nat → ByteArray → Int → Int → Int → Option (Int × ByteArray × Int)
  | 0, _, _, _, _ => none
  | k + 1, x0, x1, x7, x8 => if x8 < x1 then (if 0 ≤ x8 then (if x8 < (x0.size : Int) then (bailiwickref01_Take.l0 k x0 x1 (Go.bits .or .u64 (IntKind.u64.wrap (x7 * 256)) (IntKind.u64.wrap (bt x0 x8))) (wrap64 (x8 + 1))) else (none)) else (none)) else (if 0 ≤ x1 then (if x1 ≤ (x0.size : Int) then (some (x7, x0.extract (x1 : Int).toNat x0.size, 0)) else (none)) else (none))
end
def bailiwickref01_Take.f (k : Nat) (a0 : ByteArray) (a1 : Int) : Option (Int × ByteArray × Int) := if a1 < 1 then (bailiwickref01_Take.j0 k a0 a1 true) else (bailiwickref01_Take.j0 k a0 a1 (decide (a1 > 8)))
theorem bailiwickref01_Take.mono_l : ∀ k, (∀ y0 y1 y2, LeO (bailiwickref01_Take.j0 k y0 y1 y2) (bailiwickref01_Take.j0 (k + 1) y0 y1 y2)) ∧ (∀ y0 y1 y2 y3, LeO (bailiwickref01_Take.l0 k y0 y1 y2 y3) (bailiwickref01_Take.l0 (k + 1) y0 y1 y2 y3))
  | 0 => ⟨fun _ _ _ r h => by simp [bailiwickref01_Take.j0] at h, fun _ _ _ _ r h => by simp [bailiwickref01_Take.l0] at h⟩
  | k + 1 => by
    obtain ⟨ih0, ih1⟩ := bailiwickref01_Take.mono_l k
    refine ⟨?_, ?_⟩
    · intro y0 y1 y2
      unfold bailiwickref01_Take.j0
      repeat' first
      | (with_reducible exact ih0 _ _ _)
      | (with_reducible exact ih1 _ _ _ _)
      | (with_reducible exact LeO.refl _)
      | (with_reducible exact LeO.none _)
      | (with_reducible refine LeO.ite ?_ ?_)
      | (with_reducible refine LeO.bind ?_ (fun _ => ?_))
      | exact ih0 _ _ _
      | exact ih1 _ _ _ _
      | exact LeO.none _
      | refine LeO.ite ?_ ?_
      | refine LeO.bind ?_ (fun _ => ?_)
    · intro y0 y1 y2 y3
      unfold bailiwickref01_Take.l0
      repeat' first
      | (with_reducible exact ih0 _ _ _)
      | (with_reducible exact ih1 _ _ _ _)
      | (with_reducible exact LeO.refl _)
      | (with_reducible exact LeO.none _)
      | (with_reducible refine LeO.ite ?_ ?_)
      | (with_reducible refine LeO.bind ?_ (fun _ => ?_))
      | exact ih0 _ _ _
      | exact ih1 _ _ _ _
      | exact LeO.none _
      | refine LeO.ite ?_ ?_
      | refine LeO.bind ?_ (fun _ => ?_)
theorem bailiwickref01_Take.mono : ∀ a0 a1 k, LeO (bailiwickref01_Take.f k a0 a1) (bailiwickref01_Take.f (k + 1) a0 a1) := by
  intro a0 a1 k
  obtain ⟨ih0, ih1⟩ := bailiwickref01_Take.mono_l k
  unfold bailiwickref01_Take.f
  repeat' first
      | (with_reducible exact ih0 _ _ _)
      | (with_reducible exact ih1 _ _ _ _)
      | (with_reducible exact LeO.refl _)
      | (with_reducible exact LeO.none _)
      | (with_reducible refine LeO.ite ?_ ?_)
      | (with_reducible refine LeO.bind ?_ (fun _ => ?_))
      | exact ih0 _ _ _
      | exact ih1 _ _ _ _
      | exact LeO.none _
      | refine LeO.ite ?_ ?_
      | refine LeO.bind ?_ (fun _ => ?_)
set_option maxHeartbeats 8000000 in
set_option maxRecDepth 100000 in
theorem bailiwickref01_Take.calls (k : Nat) (a0 : ByteArray) (a1 : Int) (r1 : Int) (r2 : ByteArray) (r3 : Int) (w : World) (h : bailiwickref01_Take.f k a0 a1 = some (r1, r2, r3)) :
    Calls Try.prog 40 #[.string a0, .int .i64 a1] w fun e w' => e = .returned (.tuple #[.int .u64 r1, .string r2, .int .i64 r3]) ∧ Drawn0 w w' := by
  have H : (if a1 < 1 then (bailiwickref01_Take.j0 k a0 a1 true) else (bailiwickref01_Take.j0 k a0 a1 (decide (a1 > 8)))) = some (r1, r2, r3) := h
  clear h
  have HC3 := Aside0.mk H
  clear H
  go_enter Try.func40, Try.ntmps40
  go_upto_region 1 with (fail)
  repeat (go_quiet (fail); go_upto_region 1 with (fail))
  go_cut [14] (fun v14 wc => ∃ (kq : Nat) (x14_2 : Bool), v14 = .bool x14_2 ∧ Aside0 (bailiwickref01_Take.j0 kq a0 a1 x14_2 = some (r1, r2, r3)) ∧ Aside0 (kq ≤ k) ∧ Drawn0 w wc)
  case first =>
    have H := HC3.out
    clear HC3
    by_cases c4 : a1 < 1
    · rw [if_pos c4] at H
      have c4b0 : decide (a1 < 1) = true := decide_eq_true c4
      clear c4
      (first | rw [c4b0] | (simp only [i64_w, i32_w]; rw [c4b0]) | skip)
      have H' := Aside0.mk H
      clear H
      go_wp2
      repeat (go_quiet (fail); try go_wp2)
      go_meet
      case rel => exact ⟨_, (true), (by first | rfl | (simp; done) | (simp [*]; done)), H', ⟨by first | omega | exact Nat.le_refl _⟩, by repeat (first | exact Drawn0.refl _ | apply Drawn0.step)⟩
    · rw [if_neg c4] at H
      have c4b0 : decide (a1 < 1) = false := decide_eq_false c4
      clear c4
      (first | rw [c4b0] | (simp only [i64_w, i32_w]; rw [c4b0]) | skip)
      have H' := Aside0.mk H
      clear H
      go_wp2
      repeat (go_quiet (fail); try go_wp2)
      go_meet
      case rel => exact ⟨_, (decide (a1 > 8)), (by first | rfl | (simp; done) | (simp [*]; done)), H', ⟨by first | omega | exact Nat.le_refl _⟩, by repeat (first | exact Drawn0.refl _ | apply Drawn0.step)⟩
  case rest =>
    clear HC3
    try clear p2
    try clear c4
    try clear c4b0
    obtain ⟨kq, x14_2, rfl, HA, HJ2, ⟨mc2, rfl⟩⟩ := hcut
    cases kq with
    | zero => exact absurd HA.out (by simp [bailiwickref01_Take.j0])
    | succ kj2 =>
      have H := HA.out
      clear HA
      simp only [bailiwickref01_Take.j0] at H
      by_cases c5 : x14_2 = true
      · subst c5
        have H1 : (some (0, (⟨#[]⟩ : ByteArray), 1)) = some (r1, r2, r3) := by rw [if_pos rfl] at H; exact H
        clear H
        have H := H1
        clear H1
        simp only [Option.some.injEq, Prod.mk.injEq] at H
        obtain ⟨rfl, rfl, rfl⟩ := H
        go_wp2
        repeat (go_quiet (fail); try go_wp2)
        go_ret3
        exact ⟨by first | rfl | (simp; done) | (simp [*]; done), by repeat (first | exact Drawn0.refl _ | apply Drawn0.step)⟩
      · replace c5 := Bool.eq_false_iff.mpr c5
        subst c5
        have H1 : (if (a0.size : Int) < a1 then (some (0, (⟨#[]⟩ : ByteArray), 2)) else (bailiwickref01_Take.l0 kj2 a0 a1 0 0)) = some (r1, r2, r3) := by rw [if_neg (show ¬ (false = true) by decide)] at H; exact H
        clear H
        have H := H1
        clear H1
        by_cases c6 : (a0.size : Int) < a1
        · rw [if_pos c6] at H
          have c6b0 : decide ((a0.size : Int) < a1) = true := decide_eq_true c6
          clear c6
          simp only [Option.some.injEq, Prod.mk.injEq] at H
          obtain ⟨rfl, rfl, rfl⟩ := H
          go_wp2
          repeat (go_quiet (fail); try go_wp2)
          go_ret3
          exact ⟨by first | rfl | (simp; done) | (simp [*]; done), by repeat (first | exact Drawn0.refl _ | apply Drawn0.step)⟩
        · rw [if_neg c6] at H
          have c6b0 : decide ((a0.size : Int) < a1) = false := decide_eq_false c6
          clear c6
          have H' := Aside0.mk H
          clear H
          go_wp2
          repeat (go_quiet (fail); try go_wp2)
          go_loopg [7, 8] kj2 (fun kq v7 v8 w' => ∃ (x7_2 : Int) (x8_2 : Int), v7 = .int .u64 x7_2 ∧ v8 = .int .i64 x8_2 ∧ Aside0 (bailiwickref01_Take.l0 kq a0 a1 x7_2 x8_2 = some (r1, r2, r3)) ∧ Aside0 (kq ≤ kj2) ∧ Drawn0 w w')
          case atStart => exact ⟨(0), (0), (by first | rfl | (simp; done) | (simp [*]; done)), (by first | rfl | (simp; done) | (simp [*]; done)), H', ⟨Nat.le_refl _⟩, by repeat (first | exact Drawn0.refl _ | apply Drawn0.step)⟩
          case round =>
            clear H'
            try clear c2
            try clear p2
            try clear c4
            try clear c4b0
            try clear c5
            try clear c6
            try clear c6b0
            try clear p2
            obtain ⟨x7_2, x8_2, rfl, rfl, HA, HK2, ⟨m2, rfl⟩⟩ := hrel
            cases gk with
            | zero => exact absurd HA.out (by simp [bailiwickref01_Take.l0])
            | succ k2 =>
              have H := HA.out
              clear HA
              simp only [bailiwickref01_Take.l0] at H
              by_cases c7 : x8_2 < a1
              · rw [if_pos c7] at H
                have c7b0 : decide (x8_2 < a1) = true := decide_eq_true c7
                clear c7
                by_cases c8 : 0 ≤ x8_2
                · rw [if_pos c8] at H
                  have c8b0 : decide (0 ≤ x8_2) = true := decide_eq_true c8
                  clear c8
                  by_cases c9 : x8_2 < (a0.size : Int)
                  · rw [if_pos c9] at H
                    have c9b0 : decide (x8_2 < (a0.size : Int)) = true := decide_eq_true c9
                    clear c9
                    have H' := Aside0.mk H
                    clear H
                    have p10 : 0 ≤ (x8_2 : Int) := of_decide_eq_true (by first | (with_reducible assumption) | assumption)
                    have q10 : x8_2 < (a0.size : Int) := of_decide_eq_true (by first | (with_reducible assumption) | assumption)
                    have hx10 := bt_at a0 x8_2
                    replace p10 := eq_true p10
                    replace q10 := eq_true q10
                    go_wp2
                    repeat (go_quiet (fail); try go_wp2)
                    go_roundg k2
                    case measure => have := HJ2.out; have := HK2.out; omega
                    case rel => exact ⟨(Go.bits .or .u64 (IntKind.u64.wrap (x7_2 * 256)) (IntKind.u64.wrap (bt a0 x8_2))), (wrap64 (x8_2 + 1)), (by first | rfl | (simp; done) | (simp [*]; done)), (by first | rfl | (simp; done) | (simp [*]; done)), H', ⟨by have := HJ2.out; have := HK2.out; omega⟩, by repeat (first | exact Drawn0.refl _ | apply Drawn0.step)⟩
                  · rw [if_neg c9] at H
                    exact absurd H (by simp)
                · rw [if_neg c8] at H
                  exact absurd H (by simp)
              · rw [if_neg c7] at H
                have c7b0 : decide (x8_2 < a1) = false := decide_eq_false c7
                clear c7
                by_cases c11 : 0 ≤ a1
                · rw [if_pos c11] at H
                  have c11b0 := eq_true c11
                  have c11b1 : decide (0 ≤ a1) = true := decide_eq_true c11
                  clear c11
                  by_cases c12 : a1 ≤ (a0.size : Int)
                  · rw [if_pos c12] at H
                    have c12b0 := eq_true c12
                    have c12b1 : decide (a1 ≤ (a0.size : Int)) = true := decide_eq_true c12
                    clear c12
                    simp only [Option.some.injEq, Prod.mk.injEq] at H
                    obtain ⟨rfl, rfl, rfl⟩ := H
                    go_wp2
                    repeat (go_quiet (fail); try go_wp2)
                    go_ret3
                    exact ⟨by first | rfl | (simp; done) | (simp [*]; done), by repeat (first | exact Drawn0.refl _ | apply Drawn0.step)⟩
                  · rw [if_neg c12] at H
                    exact absurd H (by simp)
                · rw [if_neg c11] at H
                  exact absurd H (by simp)

/-! ### bailiwickref14_take: function 41 -/
def bailiwickref14_take.f (k : Nat) (a0 : ByteArray) (a1 : Int) (a2 : Int) : Option (Int) := if 0 ≤ a1 then (if a1 ≤ (a0.size : Int) then ((bailiwickref01_Take.f k (a0.extract (a1 : Int).toNat a0.size) a2).bind fun bt154 => (some (wrap64 (bt154.1)))) else (none)) else (none)
theorem bailiwickref14_take.mono : ∀ a0 a1 a2 k, LeO (bailiwickref14_take.f k a0 a1 a2) (bailiwickref14_take.f (k + 1) a0 a1 a2) := by
  intro a0 a1 a2 k
  unfold bailiwickref14_take.f
  repeat' first
      | (with_reducible exact bailiwickref01_Take.mono _ _ _)
      | (with_reducible exact LeO.refl _)
      | (with_reducible exact LeO.none _)
      | (with_reducible refine LeO.ite ?_ ?_)
      | (with_reducible refine LeO.bind ?_ (fun _ => ?_))
      | exact bailiwickref01_Take.mono _ _ _
      | exact LeO.none _
      | refine LeO.ite ?_ ?_
      | refine LeO.bind ?_ (fun _ => ?_)
set_option maxHeartbeats 8000000 in
set_option maxRecDepth 100000 in
theorem bailiwickref14_take.calls (k : Nat) (a0 : ByteArray) (a1 : Int) (a2 : Int) (r : Int) (w : World) (h : bailiwickref14_take.f k a0 a1 a2 = some r) :
    Calls Try.prog 41 #[.string a0, .int .i64 a1, .int .i64 a2] w fun e w' => e = .returned (.int .i64 r) ∧ Drawn0 w w' := by
  have H : (if 0 ≤ a1 then (if a1 ≤ (a0.size : Int) then ((bailiwickref01_Take.f k (a0.extract (a1 : Int).toNat a0.size) a2).bind fun bt154 => (some (wrap64 (bt154.1)))) else (none)) else (none)) = some r := h
  clear h
  by_cases c4 : 0 ≤ a1
  · rw [if_pos c4] at H
    have c4b0 := eq_true c4
    have c4b1 : decide (0 ≤ a1) = true := decide_eq_true c4
    clear c4
    by_cases c5 : a1 ≤ (a0.size : Int)
    · rw [if_pos c5] at H
      have c5b0 := eq_true c5
      have c5b1 : decide (a1 ≤ (a0.size : Int)) = true := decide_eq_true c5
      clear c5
      replace H := Option.bind_eq_some_iff.mp H
      obtain ⟨⟨t154, t155, t156⟩, A60, H⟩ := H
      replace H : (some (wrap64 (t154))) = some r := H
      have A6 := Aside0.mk A60
      clear A60
      obtain rfl := Option.some.inj H
      go_enter Try.func41, Try.ntmps41
      go_wp2_with (first | ((with_reducible refine gate_callee (f := 40) rfl ?_); refine goesL_ (some 15) rfl rfl Try.func40 (by kernel_rfl) rfl #[.string (a0.extract (a1 : Int).toNat a0.size), .int .i64 a2] rfl (by (try simp only [List.map_toArray, List.map_cons, List.map_nil]); first | done | rfl | (simp only [List.length_drop, List.length_take]; rfl)) ?_; (with_reducible refine (bailiwickref01_Take.calls k (a0.extract (a1 : Int).toNat a0.size) a2 t154 t155 t156 _ A6.out).mono ?_); rintro e w' ⟨rfl, ⟨nd, rfl⟩⟩; refine ⟨_, rfl, ?_⟩))
      go_ret
      exact ⟨by first | rfl | (simp; done) | (simp [*]; done), by repeat (first | exact Drawn0.refl _ | apply Drawn0.step)⟩
    · rw [if_neg c5] at H
      exact absurd H (by simp)
  · rw [if_neg c4] at H
    exact absurd H (by simp)

/-! ### bailiwickref14_TakeSlot: function 17 -/
def bailiwickref14_TakeSlot.f (k : Nat) (a0 : Int) (a1 : ByteArray) : Option (Int × Int × Int × Int × Bool) := if (a1.size : Int) = 12 then (if 4 ≤ (a1.size : Int) then ((bailiwickref01_Take.f k (a1.extract 4 a1.size) 8).bind fun bt158 => ((bailiwickref14_take.f k a1 0 3).bind fun t161 => ((bailiwickref14_take.f k a1 3 1).bind fun t162 => ((bailiwickref14_SlotRight.f a0 t161 t162 bt158.1).bind fun t164 => (if t164 = true then (some (a0, t161, t162, bt158.1, true)) else (some (0, 0, 0, 0, false))))))) else (none)) else (some (0, 0, 0, 0, false))
theorem bailiwickref14_TakeSlot.mono : ∀ a0 a1 k, LeO (bailiwickref14_TakeSlot.f k a0 a1) (bailiwickref14_TakeSlot.f (k + 1) a0 a1) := by
  intro a0 a1 k
  unfold bailiwickref14_TakeSlot.f
  repeat' first
      | (with_reducible exact bailiwickref01_Take.mono _ _ _)
      | (with_reducible exact bailiwickref14_take.mono _ _ _ _)
      | (with_reducible exact LeO.refl _)
      | (with_reducible exact LeO.none _)
      | (with_reducible refine LeO.ite ?_ ?_)
      | (with_reducible refine LeO.bind ?_ (fun _ => ?_))
      | exact bailiwickref01_Take.mono _ _ _
      | exact bailiwickref14_take.mono _ _ _ _
      | exact LeO.none _
      | refine LeO.ite ?_ ?_
      | refine LeO.bind ?_ (fun _ => ?_)
-- NOT PRINTED: function 4 (bailiwicklaw14_RecSlots)

/-! ### bailiwickref05_mask: function 59 -/
def bailiwickref05_mask.f (a0 : Int) : Option (Bool) := if a0 ≥ 0 then (some (decide (a0 < 65536))) else (some false)
set_option maxHeartbeats 8000000 in
set_option maxRecDepth 100000 in
theorem bailiwickref05_mask.calls (a0 : Int) (r : Bool) (w : World) (h : bailiwickref05_mask.f a0 = some r) :
    Calls Try.prog 59 #[.int .i64 a0] w fun e w' => e = .returned (.bool r) ∧ Drawn0 w w' := by
  have H : (if a0 ≥ 0 then (some (decide (a0 < 65536))) else (some false)) = some r := h
  clear h
  by_cases c2 : a0 ≥ 0
  · rw [if_pos c2] at H
    have c2b0 : decide (0 ≤ a0) = true := decide_eq_true c2
    clear c2
    obtain rfl := Option.some.inj H
    go_enter Try.func59, Try.ntmps59
    go_wp2
    go_ret
    exact ⟨by first | rfl | (simp; done) | (simp [*]; done), by repeat (first | exact Drawn0.refl _ | apply Drawn0.step)⟩
  · rw [if_neg c2] at H
    have c2b0 : decide (0 ≤ a0) = false := decide_eq_false c2
    clear c2
    obtain rfl := Option.some.inj H
    go_enter Try.func59, Try.ntmps59
    go_wp2
    go_ret
    exact ⟨by first | rfl | (simp; done) | (simp [*]; done), by repeat (first | exact Drawn0.refl _ | apply Drawn0.step)⟩

/-! ### bailiwickref05_Sub: function 43 -/
def bailiwickref05_Sub.f (a0 : Int) (a1 : Int) : Option (Bool) := (bailiwickref05_mask.f a0).bind fun t166 => (if t166 = true then ((bailiwickref05_mask.f a1).bind fun t167 => (if t167 = true then (some ((Go.bits .and .i64 a0 a1) == a0)) else (some false))) else (some false))
set_option maxHeartbeats 8000000 in
set_option maxRecDepth 100000 in
theorem bailiwickref05_Sub.calls (a0 : Int) (a1 : Int) (r : Bool) (w : World) (h : bailiwickref05_Sub.f a0 a1 = some r) :
    Calls Try.prog 43 #[.int .i64 a0, .int .i64 a1] w fun e w' => e = .returned (.bool r) ∧ Drawn0 w w' := by
  have H : ((bailiwickref05_mask.f a0).bind fun t166 => (if t166 = true then ((bailiwickref05_mask.f a1).bind fun t167 => (if t167 = true then (some ((Go.bits .and .i64 a0 a1) == a0)) else (some false))) else (some false))) = some r := h
  clear h
  replace H := Option.bind_eq_some_iff.mp H
  obtain ⟨t166, A30, H⟩ := H
  replace H : (if t166 = true then ((bailiwickref05_mask.f a1).bind fun t167 => (if t167 = true then (some ((Go.bits .and .i64 a0 a1) == a0)) else (some false))) else (some false)) = some r := H
  have A3 := Aside0.mk A30
  clear A30
  by_cases c4 : t166 = true
  · subst c4
    have H1 : ((bailiwickref05_mask.f a1).bind fun t167 => (if t167 = true then (some ((Go.bits .and .i64 a0 a1) == a0)) else (some false))) = some r := by rw [if_pos rfl] at H; exact H
    clear H
    have H := H1
    clear H1
    replace H := Option.bind_eq_some_iff.mp H
    obtain ⟨t167, A50, H⟩ := H
    replace H : (if t167 = true then (some ((Go.bits .and .i64 a0 a1) == a0)) else (some false)) = some r := H
    have A5 := Aside0.mk A50
    clear A50
    by_cases c6 : t167 = true
    · subst c6
      have H1 : (some ((Go.bits .and .i64 a0 a1) == a0)) = some r := by rw [if_pos rfl] at H; exact H
      clear H
      have H := H1
      clear H1
      obtain rfl := Option.some.inj H
      go_enter Try.func43, Try.ntmps43
      go_wp2_with (first | ((with_reducible refine gate_callee (f := 59) rfl ?_); refine goesL_ (some 6) rfl rfl Try.func59 (by kernel_rfl) rfl #[.int .i64 a0] rfl (by (try simp only [List.map_toArray, List.map_cons, List.map_nil]); first | done | rfl | (simp only [List.length_drop, List.length_take]; rfl)) ?_; (with_reducible refine (bailiwickref05_mask.calls a0 true _ A3.out).mono ?_); rintro e w' ⟨rfl, ⟨nd, rfl⟩⟩; refine ⟨_, rfl, ?_⟩) | (go_at_call 59; (with_reducible refine (bailiwickref05_mask.calls a1 true _ A5.out).mono ?_); rintro e w' ⟨rfl, ⟨nd, rfl⟩⟩))
      go_ret
      exact ⟨by first | rfl | (simp; done) | (simp [*]; done), by repeat (first | exact Drawn0.refl _ | apply Drawn0.step)⟩
    · replace c6 := Bool.eq_false_iff.mpr c6
      subst c6
      have H1 : (some false) = some r := by rw [if_neg (show ¬ (false = true) by decide)] at H; exact H
      clear H
      have H := H1
      clear H1
      obtain rfl := Option.some.inj H
      go_enter Try.func43, Try.ntmps43
      go_wp2_with (first | ((with_reducible refine gate_callee (f := 59) rfl ?_); refine goesL_ (some 6) rfl rfl Try.func59 (by kernel_rfl) rfl #[.int .i64 a0] rfl (by (try simp only [List.map_toArray, List.map_cons, List.map_nil]); first | done | rfl | (simp only [List.length_drop, List.length_take]; rfl)) ?_; (with_reducible refine (bailiwickref05_mask.calls a0 true _ A3.out).mono ?_); rintro e w' ⟨rfl, ⟨nd, rfl⟩⟩; refine ⟨_, rfl, ?_⟩) | (go_at_call 59; (with_reducible refine (bailiwickref05_mask.calls a1 false _ A5.out).mono ?_); rintro e w' ⟨rfl, ⟨nd, rfl⟩⟩))
      go_ret
      exact ⟨by first | rfl | (simp; done) | (simp [*]; done), by repeat (first | exact Drawn0.refl _ | apply Drawn0.step)⟩
  · replace c4 := Bool.eq_false_iff.mpr c4
    subst c4
    have H1 : (some false) = some r := by rw [if_neg (show ¬ (false = true) by decide)] at H; exact H
    clear H
    have H := H1
    clear H1
    obtain rfl := Option.some.inj H
    go_enter Try.func43, Try.ntmps43
    go_wp2_with (first | ((with_reducible refine gate_callee (f := 59) rfl ?_); refine goesL_ (some 6) rfl rfl Try.func59 (by kernel_rfl) rfl #[.int .i64 a0] rfl (by (try simp only [List.map_toArray, List.map_cons, List.map_nil]); first | done | rfl | (simp only [List.length_drop, List.length_take]; rfl)) ?_; (with_reducible refine (bailiwickref05_mask.calls a0 false _ A3.out).mono ?_); rintro e w' ⟨rfl, ⟨nd, rfl⟩⟩; refine ⟨_, rfl, ?_⟩))
    go_ret
    exact ⟨by first | rfl | (simp; done) | (simp [*]; done), by repeat (first | exact Drawn0.refl _ | apply Drawn0.step)⟩

/-! ### bailiwickref14_CapRight: function 23 -/
def bailiwickref14_CapRight.f (a0_0 : Int) (a0_1 : Int) (a0_2 : Int) (a0_3 : Int) (a0_4 : Int) (a0_5 : Int) (a0_6 : Int) (a0_7 : Int) (a0_8 : Int) (a0_9 : Bool) : Option (Bool) := (bailiwickref14_in.f a0_0 1 16777215).bind fun t169 => (if t169 = true then ((bailiwickref14_in.f a0_1 0 16777215).bind fun t170 => (if t170 = true then (if ((a0_1 == 0) == (a0_6 == 1)) = true then ((bailiwickref14_in.f a0_2 1 16777215).bind fun t171 => (if t171 = true then ((bailiwickref14_in.f a0_3 1 16777215).bind fun t172 => (if t172 = true then ((bailiwickref05_Sub.f a0_4 a0_4).bind fun t173 => (if t173 = true then ((bailiwickref14_in.f a0_5 0 4294967295).bind fun t174 => (if t174 = true then ((bailiwickref14_in.f a0_6 1 8).bind fun t175 => (if t175 = true then ((bailiwickref14_in.f a0_7 0 268435455).bind fun t176 => (if t176 = true then ((bailiwickref14_in.f a0_8 0 16777215).bind fun t177 => (if t177 = true then (some (a0_1 != a0_0)) else (some false))) else (some false))) else (some false))) else (some false))) else (some false))) else (some false))) else (some false))) else (some false)) else (some false))) else (some false))
set_option maxHeartbeats 8000000 in
set_option maxRecDepth 100000 in
theorem bailiwickref14_CapRight.calls (a0_0 : Int) (a0_1 : Int) (a0_2 : Int) (a0_3 : Int) (a0_4 : Int) (a0_5 : Int) (a0_6 : Int) (a0_7 : Int) (a0_8 : Int) (a0_9 : Bool) (r : Bool) (w : World) (h : bailiwickref14_CapRight.f a0_0 a0_1 a0_2 a0_3 a0_4 a0_5 a0_6 a0_7 a0_8 a0_9 = some r) :
    Calls Try.prog 23 #[.agg #[.int .i64 a0_0, .int .i64 a0_1, .int .i64 a0_2, .int .i64 a0_3, .int .i64 a0_4, .int .i64 a0_5, .int .i64 a0_6, .int .i64 a0_7, .int .i64 a0_8, .bool a0_9]] w fun e w' => e = .returned (.bool r) ∧ Below w.heap.size w w' := by
  have hu23 := Try.underlying23
  have HB := Aside0.mk (Below.refl w.heap.size w)
  have H : ((bailiwickref14_in.f a0_0 1 16777215).bind fun t169 => (if t169 = true then ((bailiwickref14_in.f a0_1 0 16777215).bind fun t170 => (if t170 = true then (if ((a0_1 == 0) == (a0_6 == 1)) = true then ((bailiwickref14_in.f a0_2 1 16777215).bind fun t171 => (if t171 = true then ((bailiwickref14_in.f a0_3 1 16777215).bind fun t172 => (if t172 = true then ((bailiwickref05_Sub.f a0_4 a0_4).bind fun t173 => (if t173 = true then ((bailiwickref14_in.f a0_5 0 4294967295).bind fun t174 => (if t174 = true then ((bailiwickref14_in.f a0_6 1 8).bind fun t175 => (if t175 = true then ((bailiwickref14_in.f a0_7 0 268435455).bind fun t176 => (if t176 = true then ((bailiwickref14_in.f a0_8 0 16777215).bind fun t177 => (if t177 = true then (some (a0_1 != a0_0)) else (some false))) else (some false))) else (some false))) else (some false))) else (some false))) else (some false))) else (some false))) else (some false)) else (some false))) else (some false))) = some r := h
  clear h
  replace H := Option.bind_eq_some_iff.mp H
  obtain ⟨t169, A20, H⟩ := H
  replace H : (if t169 = true then ((bailiwickref14_in.f a0_1 0 16777215).bind fun t170 => (if t170 = true then (if ((a0_1 == 0) == (a0_6 == 1)) = true then ((bailiwickref14_in.f a0_2 1 16777215).bind fun t171 => (if t171 = true then ((bailiwickref14_in.f a0_3 1 16777215).bind fun t172 => (if t172 = true then ((bailiwickref05_Sub.f a0_4 a0_4).bind fun t173 => (if t173 = true then ((bailiwickref14_in.f a0_5 0 4294967295).bind fun t174 => (if t174 = true then ((bailiwickref14_in.f a0_6 1 8).bind fun t175 => (if t175 = true then ((bailiwickref14_in.f a0_7 0 268435455).bind fun t176 => (if t176 = true then ((bailiwickref14_in.f a0_8 0 16777215).bind fun t177 => (if t177 = true then (some (a0_1 != a0_0)) else (some false))) else (some false))) else (some false))) else (some false))) else (some false))) else (some false))) else (some false))) else (some false)) else (some false))) else (some false)) = some r := H
  have A2 := Aside0.mk A20
  clear A20
  by_cases c3 : t169 = true
  · subst c3
    have H1 : ((bailiwickref14_in.f a0_1 0 16777215).bind fun t170 => (if t170 = true then (if ((a0_1 == 0) == (a0_6 == 1)) = true then ((bailiwickref14_in.f a0_2 1 16777215).bind fun t171 => (if t171 = true then ((bailiwickref14_in.f a0_3 1 16777215).bind fun t172 => (if t172 = true then ((bailiwickref05_Sub.f a0_4 a0_4).bind fun t173 => (if t173 = true then ((bailiwickref14_in.f a0_5 0 4294967295).bind fun t174 => (if t174 = true then ((bailiwickref14_in.f a0_6 1 8).bind fun t175 => (if t175 = true then ((bailiwickref14_in.f a0_7 0 268435455).bind fun t176 => (if t176 = true then ((bailiwickref14_in.f a0_8 0 16777215).bind fun t177 => (if t177 = true then (some (a0_1 != a0_0)) else (some false))) else (some false))) else (some false))) else (some false))) else (some false))) else (some false))) else (some false))) else (some false)) else (some false))) = some r := by rw [if_pos rfl] at H; exact H
    clear H
    have H := H1
    clear H1
    replace H := Option.bind_eq_some_iff.mp H
    obtain ⟨t170, A40, H⟩ := H
    replace H : (if t170 = true then (if ((a0_1 == 0) == (a0_6 == 1)) = true then ((bailiwickref14_in.f a0_2 1 16777215).bind fun t171 => (if t171 = true then ((bailiwickref14_in.f a0_3 1 16777215).bind fun t172 => (if t172 = true then ((bailiwickref05_Sub.f a0_4 a0_4).bind fun t173 => (if t173 = true then ((bailiwickref14_in.f a0_5 0 4294967295).bind fun t174 => (if t174 = true then ((bailiwickref14_in.f a0_6 1 8).bind fun t175 => (if t175 = true then ((bailiwickref14_in.f a0_7 0 268435455).bind fun t176 => (if t176 = true then ((bailiwickref14_in.f a0_8 0 16777215).bind fun t177 => (if t177 = true then (some (a0_1 != a0_0)) else (some false))) else (some false))) else (some false))) else (some false))) else (some false))) else (some false))) else (some false))) else (some false)) else (some false)) = some r := H
    have A4 := Aside0.mk A40
    clear A40
    by_cases c5 : t170 = true
    · subst c5
      have H1 : (if ((a0_1 == 0) == (a0_6 == 1)) = true then ((bailiwickref14_in.f a0_2 1 16777215).bind fun t171 => (if t171 = true then ((bailiwickref14_in.f a0_3 1 16777215).bind fun t172 => (if t172 = true then ((bailiwickref05_Sub.f a0_4 a0_4).bind fun t173 => (if t173 = true then ((bailiwickref14_in.f a0_5 0 4294967295).bind fun t174 => (if t174 = true then ((bailiwickref14_in.f a0_6 1 8).bind fun t175 => (if t175 = true then ((bailiwickref14_in.f a0_7 0 268435455).bind fun t176 => (if t176 = true then ((bailiwickref14_in.f a0_8 0 16777215).bind fun t177 => (if t177 = true then (some (a0_1 != a0_0)) else (some false))) else (some false))) else (some false))) else (some false))) else (some false))) else (some false))) else (some false))) else (some false)) = some r := by rw [if_pos rfl] at H; exact H
      clear H
      have H := H1
      clear H1
      by_cases c6 : ((a0_1 == 0) == (a0_6 == 1)) = true
      · rw [if_pos c6] at H
        have c6b0 : ((a0_1 == 0) == (a0_6 == 1)) = true := c6
        (try (have c6b1 : decide ((a0_1 == 0) = (a0_6 == 1)) = true := by simpa using c6))
        (try (have c6b2 : ((a0_1 == 0) == (a0_6 == 1)) = true := by simpa using c6))
        clear c6
        replace H := Option.bind_eq_some_iff.mp H
        obtain ⟨t171, A70, H⟩ := H
        replace H : (if t171 = true then ((bailiwickref14_in.f a0_3 1 16777215).bind fun t172 => (if t172 = true then ((bailiwickref05_Sub.f a0_4 a0_4).bind fun t173 => (if t173 = true then ((bailiwickref14_in.f a0_5 0 4294967295).bind fun t174 => (if t174 = true then ((bailiwickref14_in.f a0_6 1 8).bind fun t175 => (if t175 = true then ((bailiwickref14_in.f a0_7 0 268435455).bind fun t176 => (if t176 = true then ((bailiwickref14_in.f a0_8 0 16777215).bind fun t177 => (if t177 = true then (some (a0_1 != a0_0)) else (some false))) else (some false))) else (some false))) else (some false))) else (some false))) else (some false))) else (some false)) = some r := H
        have A7 := Aside0.mk A70
        clear A70
        by_cases c8 : t171 = true
        · subst c8
          have H1 : ((bailiwickref14_in.f a0_3 1 16777215).bind fun t172 => (if t172 = true then ((bailiwickref05_Sub.f a0_4 a0_4).bind fun t173 => (if t173 = true then ((bailiwickref14_in.f a0_5 0 4294967295).bind fun t174 => (if t174 = true then ((bailiwickref14_in.f a0_6 1 8).bind fun t175 => (if t175 = true then ((bailiwickref14_in.f a0_7 0 268435455).bind fun t176 => (if t176 = true then ((bailiwickref14_in.f a0_8 0 16777215).bind fun t177 => (if t177 = true then (some (a0_1 != a0_0)) else (some false))) else (some false))) else (some false))) else (some false))) else (some false))) else (some false))) = some r := by rw [if_pos rfl] at H; exact H
          clear H
          have H := H1
          clear H1
          replace H := Option.bind_eq_some_iff.mp H
          obtain ⟨t172, A90, H⟩ := H
          replace H : (if t172 = true then ((bailiwickref05_Sub.f a0_4 a0_4).bind fun t173 => (if t173 = true then ((bailiwickref14_in.f a0_5 0 4294967295).bind fun t174 => (if t174 = true then ((bailiwickref14_in.f a0_6 1 8).bind fun t175 => (if t175 = true then ((bailiwickref14_in.f a0_7 0 268435455).bind fun t176 => (if t176 = true then ((bailiwickref14_in.f a0_8 0 16777215).bind fun t177 => (if t177 = true then (some (a0_1 != a0_0)) else (some false))) else (some false))) else (some false))) else (some false))) else (some false))) else (some false)) = some r := H
          have A9 := Aside0.mk A90
          clear A90
          by_cases c10 : t172 = true
          · subst c10
            have H1 : ((bailiwickref05_Sub.f a0_4 a0_4).bind fun t173 => (if t173 = true then ((bailiwickref14_in.f a0_5 0 4294967295).bind fun t174 => (if t174 = true then ((bailiwickref14_in.f a0_6 1 8).bind fun t175 => (if t175 = true then ((bailiwickref14_in.f a0_7 0 268435455).bind fun t176 => (if t176 = true then ((bailiwickref14_in.f a0_8 0 16777215).bind fun t177 => (if t177 = true then (some (a0_1 != a0_0)) else (some false))) else (some false))) else (some false))) else (some false))) else (some false))) = some r := by rw [if_pos rfl] at H; exact H
            clear H
            have H := H1
            clear H1
            replace H := Option.bind_eq_some_iff.mp H
            obtain ⟨t173, A110, H⟩ := H
            replace H : (if t173 = true then ((bailiwickref14_in.f a0_5 0 4294967295).bind fun t174 => (if t174 = true then ((bailiwickref14_in.f a0_6 1 8).bind fun t175 => (if t175 = true then ((bailiwickref14_in.f a0_7 0 268435455).bind fun t176 => (if t176 = true then ((bailiwickref14_in.f a0_8 0 16777215).bind fun t177 => (if t177 = true then (some (a0_1 != a0_0)) else (some false))) else (some false))) else (some false))) else (some false))) else (some false)) = some r := H
            have A11 := Aside0.mk A110
            clear A110
            by_cases c12 : t173 = true
            · subst c12
              have H1 : ((bailiwickref14_in.f a0_5 0 4294967295).bind fun t174 => (if t174 = true then ((bailiwickref14_in.f a0_6 1 8).bind fun t175 => (if t175 = true then ((bailiwickref14_in.f a0_7 0 268435455).bind fun t176 => (if t176 = true then ((bailiwickref14_in.f a0_8 0 16777215).bind fun t177 => (if t177 = true then (some (a0_1 != a0_0)) else (some false))) else (some false))) else (some false))) else (some false))) = some r := by rw [if_pos rfl] at H; exact H
              clear H
              have H := H1
              clear H1
              replace H := Option.bind_eq_some_iff.mp H
              obtain ⟨t174, A130, H⟩ := H
              replace H : (if t174 = true then ((bailiwickref14_in.f a0_6 1 8).bind fun t175 => (if t175 = true then ((bailiwickref14_in.f a0_7 0 268435455).bind fun t176 => (if t176 = true then ((bailiwickref14_in.f a0_8 0 16777215).bind fun t177 => (if t177 = true then (some (a0_1 != a0_0)) else (some false))) else (some false))) else (some false))) else (some false)) = some r := H
              have A13 := Aside0.mk A130
              clear A130
              by_cases c14 : t174 = true
              · subst c14
                have H1 : ((bailiwickref14_in.f a0_6 1 8).bind fun t175 => (if t175 = true then ((bailiwickref14_in.f a0_7 0 268435455).bind fun t176 => (if t176 = true then ((bailiwickref14_in.f a0_8 0 16777215).bind fun t177 => (if t177 = true then (some (a0_1 != a0_0)) else (some false))) else (some false))) else (some false))) = some r := by rw [if_pos rfl] at H; exact H
                clear H
                have H := H1
                clear H1
                replace H := Option.bind_eq_some_iff.mp H
                obtain ⟨t175, A150, H⟩ := H
                replace H : (if t175 = true then ((bailiwickref14_in.f a0_7 0 268435455).bind fun t176 => (if t176 = true then ((bailiwickref14_in.f a0_8 0 16777215).bind fun t177 => (if t177 = true then (some (a0_1 != a0_0)) else (some false))) else (some false))) else (some false)) = some r := H
                have A15 := Aside0.mk A150
                clear A150
                by_cases c16 : t175 = true
                · subst c16
                  have H1 : ((bailiwickref14_in.f a0_7 0 268435455).bind fun t176 => (if t176 = true then ((bailiwickref14_in.f a0_8 0 16777215).bind fun t177 => (if t177 = true then (some (a0_1 != a0_0)) else (some false))) else (some false))) = some r := by rw [if_pos rfl] at H; exact H
                  clear H
                  have H := H1
                  clear H1
                  replace H := Option.bind_eq_some_iff.mp H
                  obtain ⟨t176, A170, H⟩ := H
                  replace H : (if t176 = true then ((bailiwickref14_in.f a0_8 0 16777215).bind fun t177 => (if t177 = true then (some (a0_1 != a0_0)) else (some false))) else (some false)) = some r := H
                  have A17 := Aside0.mk A170
                  clear A170
                  by_cases c18 : t176 = true
                  · subst c18
                    have H1 : ((bailiwickref14_in.f a0_8 0 16777215).bind fun t177 => (if t177 = true then (some (a0_1 != a0_0)) else (some false))) = some r := by rw [if_pos rfl] at H; exact H
                    clear H
                    have H := H1
                    clear H1
                    replace H := Option.bind_eq_some_iff.mp H
                    obtain ⟨t177, A190, H⟩ := H
                    replace H : (if t177 = true then (some (a0_1 != a0_0)) else (some false)) = some r := H
                    have A19 := Aside0.mk A190
                    clear A190
                    by_cases c20 : t177 = true
                    · subst c20
                      have H1 : (some (a0_1 != a0_0)) = some r := by rw [if_pos rfl] at H; exact H
                      clear H
                      have H := H1
                      clear H1
                      obtain rfl := Option.some.inj H
                      go_enter Try.func23, Try.ntmps23
                      go_wp2_with (first | ((with_reducible refine gate_dst (N := 1) rfl ?_); refine box_event ?hg (N := 1) ?hd (cs := #[.int .i64 a0_0, .int .i64 a0_1, .int .i64 a0_2, .int .i64 a0_3, .int .i64 a0_4, .int .i64 a0_5, .int .i64 a0_6, .int .i64 a0_7, .int .i64 a0_8, .bool a0_9]) (t := 23) ?hr ?_; (case hd => rfl); (case hg => rfl); (case hr => first | (go_simp; done) | (go_simp; rfl)); intro gb168 hg w21 hbox hb; have n0_ := Aside0.mk (below_step (by repeat (first | (with_reducible first | exact HB.out | apply below_alloc | apply pw_below_drewN | apply below_drew1) | exact HB.out)) hb); have n1_ := Aside0.mk (hbox); have n2_ := Aside0.mk ((by rw [hg]; exact (below_size (by repeat (first | (with_reducible first | exact HB.out | apply below_alloc | apply pw_below_drewN | apply below_drew1) | exact HB.out))) : w.heap.size ≤ gb168)); have n3_ := Aside0.mk ((by rw [hg]; exact (below_size (by repeat (first | (with_reducible first | exact HB.out | apply below_alloc | apply pw_below_drewN | apply below_drew1) | exact HB.out))) : w.heap.size ≤ gb168)); clear HB; have HB := n0_; have BK168 := n1_; have GW168 := n2_; have GE168 := n3_; clear n0_ n1_ n2_ n3_; clear hb hbox hg; have hcz22_0 : w21.cell? ⟨gb168, 0, none⟩ = some (.int .i64 a0_0) := (blk_cell BK168.out 0).trans rfl; have hcz22_1 : w21.cell? ⟨gb168, 1, none⟩ = some (.int .i64 a0_1) := (blk_cell BK168.out 1).trans rfl; have hcz22_2 : w21.cell? ⟨gb168, 2, none⟩ = some (.int .i64 a0_2) := (blk_cell BK168.out 2).trans rfl; have hcz22_3 : w21.cell? ⟨gb168, 3, none⟩ = some (.int .i64 a0_3) := (blk_cell BK168.out 3).trans rfl; have hcz22_4 : w21.cell? ⟨gb168, 4, none⟩ = some (.int .i64 a0_4) := (blk_cell BK168.out 4).trans rfl; have hcz22_5 : w21.cell? ⟨gb168, 5, none⟩ = some (.int .i64 a0_5) := (blk_cell BK168.out 5).trans rfl; have hcz22_6 : w21.cell? ⟨gb168, 6, none⟩ = some (.int .i64 a0_6) := (blk_cell BK168.out 6).trans rfl; have hcz22_7 : w21.cell? ⟨gb168, 7, none⟩ = some (.int .i64 a0_7) := (blk_cell BK168.out 7).trans rfl; have hcz22_8 : w21.cell? ⟨gb168, 8, none⟩ = some (.int .i64 a0_8) := (blk_cell BK168.out 8).trans rfl; have hcz22_9 : w21.cell? ⟨gb168, 9, none⟩ = some (.bool a0_9) := (blk_cell BK168.out 9).trans rfl; have hfz22_0 := blk_frozen BK168.out 0; have hfz22_1 := blk_frozen BK168.out 1; have hfz22_2 := blk_frozen BK168.out 2; have hfz22_3 := blk_frozen BK168.out 3; have hfz22_4 := blk_frozen BK168.out 4; have hfz22_5 := blk_frozen BK168.out 5; have hfz22_6 := blk_frozen BK168.out 6; have hfz22_7 := blk_frozen BK168.out 7; have hfz22_8 := blk_frozen BK168.out 8; have hfz22_9 := blk_frozen BK168.out 9) | ((with_reducible refine gate_callee (f := 42) rfl ?_); refine goesL_ (some 5) rfl rfl Try.func42 (by kernel_rfl) rfl #[.int .i64 a0_0, .int .i64 1, .int .i64 16777215] rfl (by (try simp only [List.map_toArray, List.map_cons, List.map_nil]); first | done | rfl | (simp only [List.length_drop, List.length_take]; rfl)) ?_; (with_reducible refine (bailiwickref14_in.calls a0_0 1 16777215 true _ A2.out).mono ?_); rintro e w' ⟨rfl, ⟨nd, rfl⟩⟩; refine ⟨_, rfl, ?_⟩) | (go_at_call 42; (with_reducible refine (bailiwickref14_in.calls a0_1 0 16777215 true _ A4.out).mono ?_); rintro e w' ⟨rfl, ⟨nd, rfl⟩⟩) | (go_at_call 42; (with_reducible refine (bailiwickref14_in.calls a0_2 1 16777215 true _ A7.out).mono ?_); rintro e w' ⟨rfl, ⟨nd, rfl⟩⟩) | (go_at_call 42; (with_reducible refine (bailiwickref14_in.calls a0_3 1 16777215 true _ A9.out).mono ?_); rintro e w' ⟨rfl, ⟨nd, rfl⟩⟩) | (go_at_call 43; (with_reducible refine (bailiwickref05_Sub.calls a0_4 a0_4 true _ A11.out).mono ?_); rintro e w' ⟨rfl, ⟨nd, rfl⟩⟩) | (go_at_call 42; (with_reducible refine (bailiwickref14_in.calls a0_5 0 4294967295 true _ A13.out).mono ?_); rintro e w' ⟨rfl, ⟨nd, rfl⟩⟩) | (go_at_call 42; (with_reducible refine (bailiwickref14_in.calls a0_6 1 8 true _ A15.out).mono ?_); rintro e w' ⟨rfl, ⟨nd, rfl⟩⟩) | (go_at_call 42; (with_reducible refine (bailiwickref14_in.calls a0_7 0 268435455 true _ A17.out).mono ?_); rintro e w' ⟨rfl, ⟨nd, rfl⟩⟩) | (go_at_call 42; (with_reducible refine (bailiwickref14_in.calls a0_8 0 16777215 true _ A19.out).mono ?_); rintro e w' ⟨rfl, ⟨nd, rfl⟩⟩))
                      go_ret
                      exact ⟨by first | rfl | (simp [errW_none, errW_some] <;> rfl) | (simp [*, errW_none, errW_some] <;> rfl), by repeat (first | (with_reducible first | exact HB.out | apply below_alloc | apply pw_below_drewN | apply below_drew1 | refine below_set ?_ GE168.out) | exact HB.out)⟩
                    · replace c20 := Bool.eq_false_iff.mpr c20
                      subst c20
                      have H1 : (some false) = some r := by rw [if_neg (show ¬ (false = true) by decide)] at H; exact H
                      clear H
                      have H := H1
                      clear H1
                      obtain rfl := Option.some.inj H
                      go_enter Try.func23, Try.ntmps23
                      go_wp2_with (first | ((with_reducible refine gate_dst (N := 1) rfl ?_); refine box_event ?hg (N := 1) ?hd (cs := #[.int .i64 a0_0, .int .i64 a0_1, .int .i64 a0_2, .int .i64 a0_3, .int .i64 a0_4, .int .i64 a0_5, .int .i64 a0_6, .int .i64 a0_7, .int .i64 a0_8, .bool a0_9]) (t := 23) ?hr ?_; (case hd => rfl); (case hg => rfl); (case hr => first | (go_simp; done) | (go_simp; rfl)); intro gb168 hg w23 hbox hb; have n0_ := Aside0.mk (below_step (by repeat (first | (with_reducible first | exact HB.out | apply below_alloc | apply pw_below_drewN | apply below_drew1) | exact HB.out)) hb); have n1_ := Aside0.mk (hbox); have n2_ := Aside0.mk ((by rw [hg]; exact (below_size (by repeat (first | (with_reducible first | exact HB.out | apply below_alloc | apply pw_below_drewN | apply below_drew1) | exact HB.out))) : w.heap.size ≤ gb168)); have n3_ := Aside0.mk ((by rw [hg]; exact (below_size (by repeat (first | (with_reducible first | exact HB.out | apply below_alloc | apply pw_below_drewN | apply below_drew1) | exact HB.out))) : w.heap.size ≤ gb168)); clear HB; have HB := n0_; have BK168 := n1_; have GW168 := n2_; have GE168 := n3_; clear n0_ n1_ n2_ n3_; clear hb hbox hg; have hcz24_0 : w23.cell? ⟨gb168, 0, none⟩ = some (.int .i64 a0_0) := (blk_cell BK168.out 0).trans rfl; have hcz24_1 : w23.cell? ⟨gb168, 1, none⟩ = some (.int .i64 a0_1) := (blk_cell BK168.out 1).trans rfl; have hcz24_2 : w23.cell? ⟨gb168, 2, none⟩ = some (.int .i64 a0_2) := (blk_cell BK168.out 2).trans rfl; have hcz24_3 : w23.cell? ⟨gb168, 3, none⟩ = some (.int .i64 a0_3) := (blk_cell BK168.out 3).trans rfl; have hcz24_4 : w23.cell? ⟨gb168, 4, none⟩ = some (.int .i64 a0_4) := (blk_cell BK168.out 4).trans rfl; have hcz24_5 : w23.cell? ⟨gb168, 5, none⟩ = some (.int .i64 a0_5) := (blk_cell BK168.out 5).trans rfl; have hcz24_6 : w23.cell? ⟨gb168, 6, none⟩ = some (.int .i64 a0_6) := (blk_cell BK168.out 6).trans rfl; have hcz24_7 : w23.cell? ⟨gb168, 7, none⟩ = some (.int .i64 a0_7) := (blk_cell BK168.out 7).trans rfl; have hcz24_8 : w23.cell? ⟨gb168, 8, none⟩ = some (.int .i64 a0_8) := (blk_cell BK168.out 8).trans rfl; have hcz24_9 : w23.cell? ⟨gb168, 9, none⟩ = some (.bool a0_9) := (blk_cell BK168.out 9).trans rfl; have hfz24_0 := blk_frozen BK168.out 0; have hfz24_1 := blk_frozen BK168.out 1; have hfz24_2 := blk_frozen BK168.out 2; have hfz24_3 := blk_frozen BK168.out 3; have hfz24_4 := blk_frozen BK168.out 4; have hfz24_5 := blk_frozen BK168.out 5; have hfz24_6 := blk_frozen BK168.out 6; have hfz24_7 := blk_frozen BK168.out 7; have hfz24_8 := blk_frozen BK168.out 8; have hfz24_9 := blk_frozen BK168.out 9) | ((with_reducible refine gate_callee (f := 42) rfl ?_); refine goesL_ (some 5) rfl rfl Try.func42 (by kernel_rfl) rfl #[.int .i64 a0_0, .int .i64 1, .int .i64 16777215] rfl (by (try simp only [List.map_toArray, List.map_cons, List.map_nil]); first | done | rfl | (simp only [List.length_drop, List.length_take]; rfl)) ?_; (with_reducible refine (bailiwickref14_in.calls a0_0 1 16777215 true _ A2.out).mono ?_); rintro e w' ⟨rfl, ⟨nd, rfl⟩⟩; refine ⟨_, rfl, ?_⟩) | (go_at_call 42; (with_reducible refine (bailiwickref14_in.calls a0_1 0 16777215 true _ A4.out).mono ?_); rintro e w' ⟨rfl, ⟨nd, rfl⟩⟩) | (go_at_call 42; (with_reducible refine (bailiwickref14_in.calls a0_2 1 16777215 true _ A7.out).mono ?_); rintro e w' ⟨rfl, ⟨nd, rfl⟩⟩) | (go_at_call 42; (with_reducible refine (bailiwickref14_in.calls a0_3 1 16777215 true _ A9.out).mono ?_); rintro e w' ⟨rfl, ⟨nd, rfl⟩⟩) | (go_at_call 43; (with_reducible refine (bailiwickref05_Sub.calls a0_4 a0_4 true _ A11.out).mono ?_); rintro e w' ⟨rfl, ⟨nd, rfl⟩⟩) | (go_at_call 42; (with_reducible refine (bailiwickref14_in.calls a0_5 0 4294967295 true _ A13.out).mono ?_); rintro e w' ⟨rfl, ⟨nd, rfl⟩⟩) | (go_at_call 42; (with_reducible refine (bailiwickref14_in.calls a0_6 1 8 true _ A15.out).mono ?_); rintro e w' ⟨rfl, ⟨nd, rfl⟩⟩) | (go_at_call 42; (with_reducible refine (bailiwickref14_in.calls a0_7 0 268435455 true _ A17.out).mono ?_); rintro e w' ⟨rfl, ⟨nd, rfl⟩⟩) | (go_at_call 42; (with_reducible refine (bailiwickref14_in.calls a0_8 0 16777215 false _ A19.out).mono ?_); rintro e w' ⟨rfl, ⟨nd, rfl⟩⟩))
                      go_ret
                      exact ⟨by first | rfl | (simp [errW_none, errW_some] <;> rfl) | (simp [*, errW_none, errW_some] <;> rfl), by repeat (first | (with_reducible first | exact HB.out | apply below_alloc | apply pw_below_drewN | apply below_drew1 | refine below_set ?_ GE168.out) | exact HB.out)⟩
                  · replace c18 := Bool.eq_false_iff.mpr c18
                    subst c18
                    have H1 : (some false) = some r := by rw [if_neg (show ¬ (false = true) by decide)] at H; exact H
                    clear H
                    have H := H1
                    clear H1
                    obtain rfl := Option.some.inj H
                    go_enter Try.func23, Try.ntmps23
                    go_wp2_with (first | ((with_reducible refine gate_dst (N := 1) rfl ?_); refine box_event ?hg (N := 1) ?hd (cs := #[.int .i64 a0_0, .int .i64 a0_1, .int .i64 a0_2, .int .i64 a0_3, .int .i64 a0_4, .int .i64 a0_5, .int .i64 a0_6, .int .i64 a0_7, .int .i64 a0_8, .bool a0_9]) (t := 23) ?hr ?_; (case hd => rfl); (case hg => rfl); (case hr => first | (go_simp; done) | (go_simp; rfl)); intro gb168 hg w25 hbox hb; have n0_ := Aside0.mk (below_step (by repeat (first | (with_reducible first | exact HB.out | apply below_alloc | apply pw_below_drewN | apply below_drew1) | exact HB.out)) hb); have n1_ := Aside0.mk (hbox); have n2_ := Aside0.mk ((by rw [hg]; exact (below_size (by repeat (first | (with_reducible first | exact HB.out | apply below_alloc | apply pw_below_drewN | apply below_drew1) | exact HB.out))) : w.heap.size ≤ gb168)); have n3_ := Aside0.mk ((by rw [hg]; exact (below_size (by repeat (first | (with_reducible first | exact HB.out | apply below_alloc | apply pw_below_drewN | apply below_drew1) | exact HB.out))) : w.heap.size ≤ gb168)); clear HB; have HB := n0_; have BK168 := n1_; have GW168 := n2_; have GE168 := n3_; clear n0_ n1_ n2_ n3_; clear hb hbox hg; have hcz26_0 : w25.cell? ⟨gb168, 0, none⟩ = some (.int .i64 a0_0) := (blk_cell BK168.out 0).trans rfl; have hcz26_1 : w25.cell? ⟨gb168, 1, none⟩ = some (.int .i64 a0_1) := (blk_cell BK168.out 1).trans rfl; have hcz26_2 : w25.cell? ⟨gb168, 2, none⟩ = some (.int .i64 a0_2) := (blk_cell BK168.out 2).trans rfl; have hcz26_3 : w25.cell? ⟨gb168, 3, none⟩ = some (.int .i64 a0_3) := (blk_cell BK168.out 3).trans rfl; have hcz26_4 : w25.cell? ⟨gb168, 4, none⟩ = some (.int .i64 a0_4) := (blk_cell BK168.out 4).trans rfl; have hcz26_5 : w25.cell? ⟨gb168, 5, none⟩ = some (.int .i64 a0_5) := (blk_cell BK168.out 5).trans rfl; have hcz26_6 : w25.cell? ⟨gb168, 6, none⟩ = some (.int .i64 a0_6) := (blk_cell BK168.out 6).trans rfl; have hcz26_7 : w25.cell? ⟨gb168, 7, none⟩ = some (.int .i64 a0_7) := (blk_cell BK168.out 7).trans rfl; have hcz26_8 : w25.cell? ⟨gb168, 8, none⟩ = some (.int .i64 a0_8) := (blk_cell BK168.out 8).trans rfl; have hcz26_9 : w25.cell? ⟨gb168, 9, none⟩ = some (.bool a0_9) := (blk_cell BK168.out 9).trans rfl; have hfz26_0 := blk_frozen BK168.out 0; have hfz26_1 := blk_frozen BK168.out 1; have hfz26_2 := blk_frozen BK168.out 2; have hfz26_3 := blk_frozen BK168.out 3; have hfz26_4 := blk_frozen BK168.out 4; have hfz26_5 := blk_frozen BK168.out 5; have hfz26_6 := blk_frozen BK168.out 6; have hfz26_7 := blk_frozen BK168.out 7; have hfz26_8 := blk_frozen BK168.out 8; have hfz26_9 := blk_frozen BK168.out 9) | ((with_reducible refine gate_callee (f := 42) rfl ?_); refine goesL_ (some 5) rfl rfl Try.func42 (by kernel_rfl) rfl #[.int .i64 a0_0, .int .i64 1, .int .i64 16777215] rfl (by (try simp only [List.map_toArray, List.map_cons, List.map_nil]); first | done | rfl | (simp only [List.length_drop, List.length_take]; rfl)) ?_; (with_reducible refine (bailiwickref14_in.calls a0_0 1 16777215 true _ A2.out).mono ?_); rintro e w' ⟨rfl, ⟨nd, rfl⟩⟩; refine ⟨_, rfl, ?_⟩) | (go_at_call 42; (with_reducible refine (bailiwickref14_in.calls a0_1 0 16777215 true _ A4.out).mono ?_); rintro e w' ⟨rfl, ⟨nd, rfl⟩⟩) | (go_at_call 42; (with_reducible refine (bailiwickref14_in.calls a0_2 1 16777215 true _ A7.out).mono ?_); rintro e w' ⟨rfl, ⟨nd, rfl⟩⟩) | (go_at_call 42; (with_reducible refine (bailiwickref14_in.calls a0_3 1 16777215 true _ A9.out).mono ?_); rintro e w' ⟨rfl, ⟨nd, rfl⟩⟩) | (go_at_call 43; (with_reducible refine (bailiwickref05_Sub.calls a0_4 a0_4 true _ A11.out).mono ?_); rintro e w' ⟨rfl, ⟨nd, rfl⟩⟩) | (go_at_call 42; (with_reducible refine (bailiwickref14_in.calls a0_5 0 4294967295 true _ A13.out).mono ?_); rintro e w' ⟨rfl, ⟨nd, rfl⟩⟩) | (go_at_call 42; (with_reducible refine (bailiwickref14_in.calls a0_6 1 8 true _ A15.out).mono ?_); rintro e w' ⟨rfl, ⟨nd, rfl⟩⟩) | (go_at_call 42; (with_reducible refine (bailiwickref14_in.calls a0_7 0 268435455 false _ A17.out).mono ?_); rintro e w' ⟨rfl, ⟨nd, rfl⟩⟩))
                    go_ret
                    exact ⟨by first | rfl | (simp [errW_none, errW_some] <;> rfl) | (simp [*, errW_none, errW_some] <;> rfl), by repeat (first | (with_reducible first | exact HB.out | apply below_alloc | apply pw_below_drewN | apply below_drew1 | refine below_set ?_ GE168.out) | exact HB.out)⟩
                · replace c16 := Bool.eq_false_iff.mpr c16
                  subst c16
                  have H1 : (some false) = some r := by rw [if_neg (show ¬ (false = true) by decide)] at H; exact H
                  clear H
                  have H := H1
                  clear H1
                  obtain rfl := Option.some.inj H
                  go_enter Try.func23, Try.ntmps23
                  go_wp2_with (first | ((with_reducible refine gate_dst (N := 1) rfl ?_); refine box_event ?hg (N := 1) ?hd (cs := #[.int .i64 a0_0, .int .i64 a0_1, .int .i64 a0_2, .int .i64 a0_3, .int .i64 a0_4, .int .i64 a0_5, .int .i64 a0_6, .int .i64 a0_7, .int .i64 a0_8, .bool a0_9]) (t := 23) ?hr ?_; (case hd => rfl); (case hg => rfl); (case hr => first | (go_simp; done) | (go_simp; rfl)); intro gb168 hg w27 hbox hb; have n0_ := Aside0.mk (below_step (by repeat (first | (with_reducible first | exact HB.out | apply below_alloc | apply pw_below_drewN | apply below_drew1) | exact HB.out)) hb); have n1_ := Aside0.mk (hbox); have n2_ := Aside0.mk ((by rw [hg]; exact (below_size (by repeat (first | (with_reducible first | exact HB.out | apply below_alloc | apply pw_below_drewN | apply below_drew1) | exact HB.out))) : w.heap.size ≤ gb168)); have n3_ := Aside0.mk ((by rw [hg]; exact (below_size (by repeat (first | (with_reducible first | exact HB.out | apply below_alloc | apply pw_below_drewN | apply below_drew1) | exact HB.out))) : w.heap.size ≤ gb168)); clear HB; have HB := n0_; have BK168 := n1_; have GW168 := n2_; have GE168 := n3_; clear n0_ n1_ n2_ n3_; clear hb hbox hg; have hcz28_0 : w27.cell? ⟨gb168, 0, none⟩ = some (.int .i64 a0_0) := (blk_cell BK168.out 0).trans rfl; have hcz28_1 : w27.cell? ⟨gb168, 1, none⟩ = some (.int .i64 a0_1) := (blk_cell BK168.out 1).trans rfl; have hcz28_2 : w27.cell? ⟨gb168, 2, none⟩ = some (.int .i64 a0_2) := (blk_cell BK168.out 2).trans rfl; have hcz28_3 : w27.cell? ⟨gb168, 3, none⟩ = some (.int .i64 a0_3) := (blk_cell BK168.out 3).trans rfl; have hcz28_4 : w27.cell? ⟨gb168, 4, none⟩ = some (.int .i64 a0_4) := (blk_cell BK168.out 4).trans rfl; have hcz28_5 : w27.cell? ⟨gb168, 5, none⟩ = some (.int .i64 a0_5) := (blk_cell BK168.out 5).trans rfl; have hcz28_6 : w27.cell? ⟨gb168, 6, none⟩ = some (.int .i64 a0_6) := (blk_cell BK168.out 6).trans rfl; have hcz28_7 : w27.cell? ⟨gb168, 7, none⟩ = some (.int .i64 a0_7) := (blk_cell BK168.out 7).trans rfl; have hcz28_8 : w27.cell? ⟨gb168, 8, none⟩ = some (.int .i64 a0_8) := (blk_cell BK168.out 8).trans rfl; have hcz28_9 : w27.cell? ⟨gb168, 9, none⟩ = some (.bool a0_9) := (blk_cell BK168.out 9).trans rfl; have hfz28_0 := blk_frozen BK168.out 0; have hfz28_1 := blk_frozen BK168.out 1; have hfz28_2 := blk_frozen BK168.out 2; have hfz28_3 := blk_frozen BK168.out 3; have hfz28_4 := blk_frozen BK168.out 4; have hfz28_5 := blk_frozen BK168.out 5; have hfz28_6 := blk_frozen BK168.out 6; have hfz28_7 := blk_frozen BK168.out 7; have hfz28_8 := blk_frozen BK168.out 8; have hfz28_9 := blk_frozen BK168.out 9) | ((with_reducible refine gate_callee (f := 42) rfl ?_); refine goesL_ (some 5) rfl rfl Try.func42 (by kernel_rfl) rfl #[.int .i64 a0_0, .int .i64 1, .int .i64 16777215] rfl (by (try simp only [List.map_toArray, List.map_cons, List.map_nil]); first | done | rfl | (simp only [List.length_drop, List.length_take]; rfl)) ?_; (with_reducible refine (bailiwickref14_in.calls a0_0 1 16777215 true _ A2.out).mono ?_); rintro e w' ⟨rfl, ⟨nd, rfl⟩⟩; refine ⟨_, rfl, ?_⟩) | (go_at_call 42; (with_reducible refine (bailiwickref14_in.calls a0_1 0 16777215 true _ A4.out).mono ?_); rintro e w' ⟨rfl, ⟨nd, rfl⟩⟩) | (go_at_call 42; (with_reducible refine (bailiwickref14_in.calls a0_2 1 16777215 true _ A7.out).mono ?_); rintro e w' ⟨rfl, ⟨nd, rfl⟩⟩) | (go_at_call 42; (with_reducible refine (bailiwickref14_in.calls a0_3 1 16777215 true _ A9.out).mono ?_); rintro e w' ⟨rfl, ⟨nd, rfl⟩⟩) | (go_at_call 43; (with_reducible refine (bailiwickref05_Sub.calls a0_4 a0_4 true _ A11.out).mono ?_); rintro e w' ⟨rfl, ⟨nd, rfl⟩⟩) | (go_at_call 42; (with_reducible refine (bailiwickref14_in.calls a0_5 0 4294967295 true _ A13.out).mono ?_); rintro e w' ⟨rfl, ⟨nd, rfl⟩⟩) | (go_at_call 42; (with_reducible refine (bailiwickref14_in.calls a0_6 1 8 false _ A15.out).mono ?_); rintro e w' ⟨rfl, ⟨nd, rfl⟩⟩))
                  go_ret
                  exact ⟨by first | rfl | (simp [errW_none, errW_some] <;> rfl) | (simp [*, errW_none, errW_some] <;> rfl), by repeat (first | (with_reducible first | exact HB.out | apply below_alloc | apply pw_below_drewN | apply below_drew1 | refine below_set ?_ GE168.out) | exact HB.out)⟩
              · replace c14 := Bool.eq_false_iff.mpr c14
                subst c14
                have H1 : (some false) = some r := by rw [if_neg (show ¬ (false = true) by decide)] at H; exact H
                clear H
                have H := H1
                clear H1
                obtain rfl := Option.some.inj H
                go_enter Try.func23, Try.ntmps23
                go_wp2_with (first | ((with_reducible refine gate_dst (N := 1) rfl ?_); refine box_event ?hg (N := 1) ?hd (cs := #[.int .i64 a0_0, .int .i64 a0_1, .int .i64 a0_2, .int .i64 a0_3, .int .i64 a0_4, .int .i64 a0_5, .int .i64 a0_6, .int .i64 a0_7, .int .i64 a0_8, .bool a0_9]) (t := 23) ?hr ?_; (case hd => rfl); (case hg => rfl); (case hr => first | (go_simp; done) | (go_simp; rfl)); intro gb168 hg w29 hbox hb; have n0_ := Aside0.mk (below_step (by repeat (first | (with_reducible first | exact HB.out | apply below_alloc | apply pw_below_drewN | apply below_drew1) | exact HB.out)) hb); have n1_ := Aside0.mk (hbox); have n2_ := Aside0.mk ((by rw [hg]; exact (below_size (by repeat (first | (with_reducible first | exact HB.out | apply below_alloc | apply pw_below_drewN | apply below_drew1) | exact HB.out))) : w.heap.size ≤ gb168)); have n3_ := Aside0.mk ((by rw [hg]; exact (below_size (by repeat (first | (with_reducible first | exact HB.out | apply below_alloc | apply pw_below_drewN | apply below_drew1) | exact HB.out))) : w.heap.size ≤ gb168)); clear HB; have HB := n0_; have BK168 := n1_; have GW168 := n2_; have GE168 := n3_; clear n0_ n1_ n2_ n3_; clear hb hbox hg; have hcz30_0 : w29.cell? ⟨gb168, 0, none⟩ = some (.int .i64 a0_0) := (blk_cell BK168.out 0).trans rfl; have hcz30_1 : w29.cell? ⟨gb168, 1, none⟩ = some (.int .i64 a0_1) := (blk_cell BK168.out 1).trans rfl; have hcz30_2 : w29.cell? ⟨gb168, 2, none⟩ = some (.int .i64 a0_2) := (blk_cell BK168.out 2).trans rfl; have hcz30_3 : w29.cell? ⟨gb168, 3, none⟩ = some (.int .i64 a0_3) := (blk_cell BK168.out 3).trans rfl; have hcz30_4 : w29.cell? ⟨gb168, 4, none⟩ = some (.int .i64 a0_4) := (blk_cell BK168.out 4).trans rfl; have hcz30_5 : w29.cell? ⟨gb168, 5, none⟩ = some (.int .i64 a0_5) := (blk_cell BK168.out 5).trans rfl; have hcz30_6 : w29.cell? ⟨gb168, 6, none⟩ = some (.int .i64 a0_6) := (blk_cell BK168.out 6).trans rfl; have hcz30_7 : w29.cell? ⟨gb168, 7, none⟩ = some (.int .i64 a0_7) := (blk_cell BK168.out 7).trans rfl; have hcz30_8 : w29.cell? ⟨gb168, 8, none⟩ = some (.int .i64 a0_8) := (blk_cell BK168.out 8).trans rfl; have hcz30_9 : w29.cell? ⟨gb168, 9, none⟩ = some (.bool a0_9) := (blk_cell BK168.out 9).trans rfl; have hfz30_0 := blk_frozen BK168.out 0; have hfz30_1 := blk_frozen BK168.out 1; have hfz30_2 := blk_frozen BK168.out 2; have hfz30_3 := blk_frozen BK168.out 3; have hfz30_4 := blk_frozen BK168.out 4; have hfz30_5 := blk_frozen BK168.out 5; have hfz30_6 := blk_frozen BK168.out 6; have hfz30_7 := blk_frozen BK168.out 7; have hfz30_8 := blk_frozen BK168.out 8; have hfz30_9 := blk_frozen BK168.out 9) | ((with_reducible refine gate_callee (f := 42) rfl ?_); refine goesL_ (some 5) rfl rfl Try.func42 (by kernel_rfl) rfl #[.int .i64 a0_0, .int .i64 1, .int .i64 16777215] rfl (by (try simp only [List.map_toArray, List.map_cons, List.map_nil]); first | done | rfl | (simp only [List.length_drop, List.length_take]; rfl)) ?_; (with_reducible refine (bailiwickref14_in.calls a0_0 1 16777215 true _ A2.out).mono ?_); rintro e w' ⟨rfl, ⟨nd, rfl⟩⟩; refine ⟨_, rfl, ?_⟩) | (go_at_call 42; (with_reducible refine (bailiwickref14_in.calls a0_1 0 16777215 true _ A4.out).mono ?_); rintro e w' ⟨rfl, ⟨nd, rfl⟩⟩) | (go_at_call 42; (with_reducible refine (bailiwickref14_in.calls a0_2 1 16777215 true _ A7.out).mono ?_); rintro e w' ⟨rfl, ⟨nd, rfl⟩⟩) | (go_at_call 42; (with_reducible refine (bailiwickref14_in.calls a0_3 1 16777215 true _ A9.out).mono ?_); rintro e w' ⟨rfl, ⟨nd, rfl⟩⟩) | (go_at_call 43; (with_reducible refine (bailiwickref05_Sub.calls a0_4 a0_4 true _ A11.out).mono ?_); rintro e w' ⟨rfl, ⟨nd, rfl⟩⟩) | (go_at_call 42; (with_reducible refine (bailiwickref14_in.calls a0_5 0 4294967295 false _ A13.out).mono ?_); rintro e w' ⟨rfl, ⟨nd, rfl⟩⟩))
                go_ret
                exact ⟨by first | rfl | (simp [errW_none, errW_some] <;> rfl) | (simp [*, errW_none, errW_some] <;> rfl), by repeat (first | (with_reducible first | exact HB.out | apply below_alloc | apply pw_below_drewN | apply below_drew1 | refine below_set ?_ GE168.out) | exact HB.out)⟩
            · replace c12 := Bool.eq_false_iff.mpr c12
              subst c12
              have H1 : (some false) = some r := by rw [if_neg (show ¬ (false = true) by decide)] at H; exact H
              clear H
              have H := H1
              clear H1
              obtain rfl := Option.some.inj H
              go_enter Try.func23, Try.ntmps23
              go_wp2_with (first | ((with_reducible refine gate_dst (N := 1) rfl ?_); refine box_event ?hg (N := 1) ?hd (cs := #[.int .i64 a0_0, .int .i64 a0_1, .int .i64 a0_2, .int .i64 a0_3, .int .i64 a0_4, .int .i64 a0_5, .int .i64 a0_6, .int .i64 a0_7, .int .i64 a0_8, .bool a0_9]) (t := 23) ?hr ?_; (case hd => rfl); (case hg => rfl); (case hr => first | (go_simp; done) | (go_simp; rfl)); intro gb168 hg w31 hbox hb; have n0_ := Aside0.mk (below_step (by repeat (first | (with_reducible first | exact HB.out | apply below_alloc | apply pw_below_drewN | apply below_drew1) | exact HB.out)) hb); have n1_ := Aside0.mk (hbox); have n2_ := Aside0.mk ((by rw [hg]; exact (below_size (by repeat (first | (with_reducible first | exact HB.out | apply below_alloc | apply pw_below_drewN | apply below_drew1) | exact HB.out))) : w.heap.size ≤ gb168)); have n3_ := Aside0.mk ((by rw [hg]; exact (below_size (by repeat (first | (with_reducible first | exact HB.out | apply below_alloc | apply pw_below_drewN | apply below_drew1) | exact HB.out))) : w.heap.size ≤ gb168)); clear HB; have HB := n0_; have BK168 := n1_; have GW168 := n2_; have GE168 := n3_; clear n0_ n1_ n2_ n3_; clear hb hbox hg; have hcz32_0 : w31.cell? ⟨gb168, 0, none⟩ = some (.int .i64 a0_0) := (blk_cell BK168.out 0).trans rfl; have hcz32_1 : w31.cell? ⟨gb168, 1, none⟩ = some (.int .i64 a0_1) := (blk_cell BK168.out 1).trans rfl; have hcz32_2 : w31.cell? ⟨gb168, 2, none⟩ = some (.int .i64 a0_2) := (blk_cell BK168.out 2).trans rfl; have hcz32_3 : w31.cell? ⟨gb168, 3, none⟩ = some (.int .i64 a0_3) := (blk_cell BK168.out 3).trans rfl; have hcz32_4 : w31.cell? ⟨gb168, 4, none⟩ = some (.int .i64 a0_4) := (blk_cell BK168.out 4).trans rfl; have hcz32_5 : w31.cell? ⟨gb168, 5, none⟩ = some (.int .i64 a0_5) := (blk_cell BK168.out 5).trans rfl; have hcz32_6 : w31.cell? ⟨gb168, 6, none⟩ = some (.int .i64 a0_6) := (blk_cell BK168.out 6).trans rfl; have hcz32_7 : w31.cell? ⟨gb168, 7, none⟩ = some (.int .i64 a0_7) := (blk_cell BK168.out 7).trans rfl; have hcz32_8 : w31.cell? ⟨gb168, 8, none⟩ = some (.int .i64 a0_8) := (blk_cell BK168.out 8).trans rfl; have hcz32_9 : w31.cell? ⟨gb168, 9, none⟩ = some (.bool a0_9) := (blk_cell BK168.out 9).trans rfl; have hfz32_0 := blk_frozen BK168.out 0; have hfz32_1 := blk_frozen BK168.out 1; have hfz32_2 := blk_frozen BK168.out 2; have hfz32_3 := blk_frozen BK168.out 3; have hfz32_4 := blk_frozen BK168.out 4; have hfz32_5 := blk_frozen BK168.out 5; have hfz32_6 := blk_frozen BK168.out 6; have hfz32_7 := blk_frozen BK168.out 7; have hfz32_8 := blk_frozen BK168.out 8; have hfz32_9 := blk_frozen BK168.out 9) | ((with_reducible refine gate_callee (f := 42) rfl ?_); refine goesL_ (some 5) rfl rfl Try.func42 (by kernel_rfl) rfl #[.int .i64 a0_0, .int .i64 1, .int .i64 16777215] rfl (by (try simp only [List.map_toArray, List.map_cons, List.map_nil]); first | done | rfl | (simp only [List.length_drop, List.length_take]; rfl)) ?_; (with_reducible refine (bailiwickref14_in.calls a0_0 1 16777215 true _ A2.out).mono ?_); rintro e w' ⟨rfl, ⟨nd, rfl⟩⟩; refine ⟨_, rfl, ?_⟩) | (go_at_call 42; (with_reducible refine (bailiwickref14_in.calls a0_1 0 16777215 true _ A4.out).mono ?_); rintro e w' ⟨rfl, ⟨nd, rfl⟩⟩) | (go_at_call 42; (with_reducible refine (bailiwickref14_in.calls a0_2 1 16777215 true _ A7.out).mono ?_); rintro e w' ⟨rfl, ⟨nd, rfl⟩⟩) | (go_at_call 42; (with_reducible refine (bailiwickref14_in.calls a0_3 1 16777215 true _ A9.out).mono ?_); rintro e w' ⟨rfl, ⟨nd, rfl⟩⟩) | (go_at_call 43; (with_reducible refine (bailiwickref05_Sub.calls a0_4 a0_4 false _ A11.out).mono ?_); rintro e w' ⟨rfl, ⟨nd, rfl⟩⟩))
              go_ret
              exact ⟨by first | rfl | (simp [errW_none, errW_some] <;> rfl) | (simp [*, errW_none, errW_some] <;> rfl), by repeat (first | (with_reducible first | exact HB.out | apply below_alloc | apply pw_below_drewN | apply below_drew1 | refine below_set ?_ GE168.out) | exact HB.out)⟩
          · replace c10 := Bool.eq_false_iff.mpr c10
            subst c10
            have H1 : (some false) = some r := by rw [if_neg (show ¬ (false = true) by decide)] at H; exact H
            clear H
            have H := H1
            clear H1
            obtain rfl := Option.some.inj H
            go_enter Try.func23, Try.ntmps23
            go_wp2_with (first | ((with_reducible refine gate_dst (N := 1) rfl ?_); refine box_event ?hg (N := 1) ?hd (cs := #[.int .i64 a0_0, .int .i64 a0_1, .int .i64 a0_2, .int .i64 a0_3, .int .i64 a0_4, .int .i64 a0_5, .int .i64 a0_6, .int .i64 a0_7, .int .i64 a0_8, .bool a0_9]) (t := 23) ?hr ?_; (case hd => rfl); (case hg => rfl); (case hr => first | (go_simp; done) | (go_simp; rfl)); intro gb168 hg w33 hbox hb; have n0_ := Aside0.mk (below_step (by repeat (first | (with_reducible first | exact HB.out | apply below_alloc | apply pw_below_drewN | apply below_drew1) | exact HB.out)) hb); have n1_ := Aside0.mk (hbox); have n2_ := Aside0.mk ((by rw [hg]; exact (below_size (by repeat (first | (with_reducible first | exact HB.out | apply below_alloc | apply pw_below_drewN | apply below_drew1) | exact HB.out))) : w.heap.size ≤ gb168)); have n3_ := Aside0.mk ((by rw [hg]; exact (below_size (by repeat (first | (with_reducible first | exact HB.out | apply below_alloc | apply pw_below_drewN | apply below_drew1) | exact HB.out))) : w.heap.size ≤ gb168)); clear HB; have HB := n0_; have BK168 := n1_; have GW168 := n2_; have GE168 := n3_; clear n0_ n1_ n2_ n3_; clear hb hbox hg; have hcz34_0 : w33.cell? ⟨gb168, 0, none⟩ = some (.int .i64 a0_0) := (blk_cell BK168.out 0).trans rfl; have hcz34_1 : w33.cell? ⟨gb168, 1, none⟩ = some (.int .i64 a0_1) := (blk_cell BK168.out 1).trans rfl; have hcz34_2 : w33.cell? ⟨gb168, 2, none⟩ = some (.int .i64 a0_2) := (blk_cell BK168.out 2).trans rfl; have hcz34_3 : w33.cell? ⟨gb168, 3, none⟩ = some (.int .i64 a0_3) := (blk_cell BK168.out 3).trans rfl; have hcz34_4 : w33.cell? ⟨gb168, 4, none⟩ = some (.int .i64 a0_4) := (blk_cell BK168.out 4).trans rfl; have hcz34_5 : w33.cell? ⟨gb168, 5, none⟩ = some (.int .i64 a0_5) := (blk_cell BK168.out 5).trans rfl; have hcz34_6 : w33.cell? ⟨gb168, 6, none⟩ = some (.int .i64 a0_6) := (blk_cell BK168.out 6).trans rfl; have hcz34_7 : w33.cell? ⟨gb168, 7, none⟩ = some (.int .i64 a0_7) := (blk_cell BK168.out 7).trans rfl; have hcz34_8 : w33.cell? ⟨gb168, 8, none⟩ = some (.int .i64 a0_8) := (blk_cell BK168.out 8).trans rfl; have hcz34_9 : w33.cell? ⟨gb168, 9, none⟩ = some (.bool a0_9) := (blk_cell BK168.out 9).trans rfl; have hfz34_0 := blk_frozen BK168.out 0; have hfz34_1 := blk_frozen BK168.out 1; have hfz34_2 := blk_frozen BK168.out 2; have hfz34_3 := blk_frozen BK168.out 3; have hfz34_4 := blk_frozen BK168.out 4; have hfz34_5 := blk_frozen BK168.out 5; have hfz34_6 := blk_frozen BK168.out 6; have hfz34_7 := blk_frozen BK168.out 7; have hfz34_8 := blk_frozen BK168.out 8; have hfz34_9 := blk_frozen BK168.out 9) | ((with_reducible refine gate_callee (f := 42) rfl ?_); refine goesL_ (some 5) rfl rfl Try.func42 (by kernel_rfl) rfl #[.int .i64 a0_0, .int .i64 1, .int .i64 16777215] rfl (by (try simp only [List.map_toArray, List.map_cons, List.map_nil]); first | done | rfl | (simp only [List.length_drop, List.length_take]; rfl)) ?_; (with_reducible refine (bailiwickref14_in.calls a0_0 1 16777215 true _ A2.out).mono ?_); rintro e w' ⟨rfl, ⟨nd, rfl⟩⟩; refine ⟨_, rfl, ?_⟩) | (go_at_call 42; (with_reducible refine (bailiwickref14_in.calls a0_1 0 16777215 true _ A4.out).mono ?_); rintro e w' ⟨rfl, ⟨nd, rfl⟩⟩) | (go_at_call 42; (with_reducible refine (bailiwickref14_in.calls a0_2 1 16777215 true _ A7.out).mono ?_); rintro e w' ⟨rfl, ⟨nd, rfl⟩⟩) | (go_at_call 42; (with_reducible refine (bailiwickref14_in.calls a0_3 1 16777215 false _ A9.out).mono ?_); rintro e w' ⟨rfl, ⟨nd, rfl⟩⟩))
            go_ret
            exact ⟨by first | rfl | (simp [errW_none, errW_some] <;> rfl) | (simp [*, errW_none, errW_some] <;> rfl), by repeat (first | (with_reducible first | exact HB.out | apply below_alloc | apply pw_below_drewN | apply below_drew1 | refine below_set ?_ GE168.out) | exact HB.out)⟩
        · replace c8 := Bool.eq_false_iff.mpr c8
          subst c8
          have H1 : (some false) = some r := by rw [if_neg (show ¬ (false = true) by decide)] at H; exact H
          clear H
          have H := H1
          clear H1
          obtain rfl := Option.some.inj H
          go_enter Try.func23, Try.ntmps23
          go_wp2_with (first | ((with_reducible refine gate_dst (N := 1) rfl ?_); refine box_event ?hg (N := 1) ?hd (cs := #[.int .i64 a0_0, .int .i64 a0_1, .int .i64 a0_2, .int .i64 a0_3, .int .i64 a0_4, .int .i64 a0_5, .int .i64 a0_6, .int .i64 a0_7, .int .i64 a0_8, .bool a0_9]) (t := 23) ?hr ?_; (case hd => rfl); (case hg => rfl); (case hr => first | (go_simp; done) | (go_simp; rfl)); intro gb168 hg w35 hbox hb; have n0_ := Aside0.mk (below_step (by repeat (first | (with_reducible first | exact HB.out | apply below_alloc | apply pw_below_drewN | apply below_drew1) | exact HB.out)) hb); have n1_ := Aside0.mk (hbox); have n2_ := Aside0.mk ((by rw [hg]; exact (below_size (by repeat (first | (with_reducible first | exact HB.out | apply below_alloc | apply pw_below_drewN | apply below_drew1) | exact HB.out))) : w.heap.size ≤ gb168)); have n3_ := Aside0.mk ((by rw [hg]; exact (below_size (by repeat (first | (with_reducible first | exact HB.out | apply below_alloc | apply pw_below_drewN | apply below_drew1) | exact HB.out))) : w.heap.size ≤ gb168)); clear HB; have HB := n0_; have BK168 := n1_; have GW168 := n2_; have GE168 := n3_; clear n0_ n1_ n2_ n3_; clear hb hbox hg; have hcz36_0 : w35.cell? ⟨gb168, 0, none⟩ = some (.int .i64 a0_0) := (blk_cell BK168.out 0).trans rfl; have hcz36_1 : w35.cell? ⟨gb168, 1, none⟩ = some (.int .i64 a0_1) := (blk_cell BK168.out 1).trans rfl; have hcz36_2 : w35.cell? ⟨gb168, 2, none⟩ = some (.int .i64 a0_2) := (blk_cell BK168.out 2).trans rfl; have hcz36_3 : w35.cell? ⟨gb168, 3, none⟩ = some (.int .i64 a0_3) := (blk_cell BK168.out 3).trans rfl; have hcz36_4 : w35.cell? ⟨gb168, 4, none⟩ = some (.int .i64 a0_4) := (blk_cell BK168.out 4).trans rfl; have hcz36_5 : w35.cell? ⟨gb168, 5, none⟩ = some (.int .i64 a0_5) := (blk_cell BK168.out 5).trans rfl; have hcz36_6 : w35.cell? ⟨gb168, 6, none⟩ = some (.int .i64 a0_6) := (blk_cell BK168.out 6).trans rfl; have hcz36_7 : w35.cell? ⟨gb168, 7, none⟩ = some (.int .i64 a0_7) := (blk_cell BK168.out 7).trans rfl; have hcz36_8 : w35.cell? ⟨gb168, 8, none⟩ = some (.int .i64 a0_8) := (blk_cell BK168.out 8).trans rfl; have hcz36_9 : w35.cell? ⟨gb168, 9, none⟩ = some (.bool a0_9) := (blk_cell BK168.out 9).trans rfl; have hfz36_0 := blk_frozen BK168.out 0; have hfz36_1 := blk_frozen BK168.out 1; have hfz36_2 := blk_frozen BK168.out 2; have hfz36_3 := blk_frozen BK168.out 3; have hfz36_4 := blk_frozen BK168.out 4; have hfz36_5 := blk_frozen BK168.out 5; have hfz36_6 := blk_frozen BK168.out 6; have hfz36_7 := blk_frozen BK168.out 7; have hfz36_8 := blk_frozen BK168.out 8; have hfz36_9 := blk_frozen BK168.out 9) | ((with_reducible refine gate_callee (f := 42) rfl ?_); refine goesL_ (some 5) rfl rfl Try.func42 (by kernel_rfl) rfl #[.int .i64 a0_0, .int .i64 1, .int .i64 16777215] rfl (by (try simp only [List.map_toArray, List.map_cons, List.map_nil]); first | done | rfl | (simp only [List.length_drop, List.length_take]; rfl)) ?_; (with_reducible refine (bailiwickref14_in.calls a0_0 1 16777215 true _ A2.out).mono ?_); rintro e w' ⟨rfl, ⟨nd, rfl⟩⟩; refine ⟨_, rfl, ?_⟩) | (go_at_call 42; (with_reducible refine (bailiwickref14_in.calls a0_1 0 16777215 true _ A4.out).mono ?_); rintro e w' ⟨rfl, ⟨nd, rfl⟩⟩) | (go_at_call 42; (with_reducible refine (bailiwickref14_in.calls a0_2 1 16777215 false _ A7.out).mono ?_); rintro e w' ⟨rfl, ⟨nd, rfl⟩⟩))
          go_ret
          exact ⟨by first | rfl | (simp [errW_none, errW_some] <;> rfl) | (simp [*, errW_none, errW_some] <;> rfl), by repeat (first | (with_reducible first | exact HB.out | apply below_alloc | apply pw_below_drewN | apply below_drew1 | refine below_set ?_ GE168.out) | exact HB.out)⟩
      · rw [if_neg c6] at H
        have c6b0 : ((a0_1 == 0) == (a0_6 == 1)) = false := by simpa using c6
        (try (have c6b1 : decide ((a0_1 == 0) = (a0_6 == 1)) = false := by simpa using c6))
        (try (have c6b2 : ((a0_1 == 0) == (a0_6 == 1)) = false := by simpa using c6))
        (try (have c6b3 : ¬ ((a0_1 == 0) = (a0_6 == 1)) := by simpa using c6))
        clear c6
        obtain rfl := Option.some.inj H
        go_enter Try.func23, Try.ntmps23
        go_wp2_with (first | ((with_reducible refine gate_dst (N := 1) rfl ?_); refine box_event ?hg (N := 1) ?hd (cs := #[.int .i64 a0_0, .int .i64 a0_1, .int .i64 a0_2, .int .i64 a0_3, .int .i64 a0_4, .int .i64 a0_5, .int .i64 a0_6, .int .i64 a0_7, .int .i64 a0_8, .bool a0_9]) (t := 23) ?hr ?_; (case hd => rfl); (case hg => rfl); (case hr => first | (go_simp; done) | (go_simp; rfl)); intro gb168 hg w37 hbox hb; have n0_ := Aside0.mk (below_step (by repeat (first | (with_reducible first | exact HB.out | apply below_alloc | apply pw_below_drewN | apply below_drew1) | exact HB.out)) hb); have n1_ := Aside0.mk (hbox); have n2_ := Aside0.mk ((by rw [hg]; exact (below_size (by repeat (first | (with_reducible first | exact HB.out | apply below_alloc | apply pw_below_drewN | apply below_drew1) | exact HB.out))) : w.heap.size ≤ gb168)); have n3_ := Aside0.mk ((by rw [hg]; exact (below_size (by repeat (first | (with_reducible first | exact HB.out | apply below_alloc | apply pw_below_drewN | apply below_drew1) | exact HB.out))) : w.heap.size ≤ gb168)); clear HB; have HB := n0_; have BK168 := n1_; have GW168 := n2_; have GE168 := n3_; clear n0_ n1_ n2_ n3_; clear hb hbox hg; have hcz38_0 : w37.cell? ⟨gb168, 0, none⟩ = some (.int .i64 a0_0) := (blk_cell BK168.out 0).trans rfl; have hcz38_1 : w37.cell? ⟨gb168, 1, none⟩ = some (.int .i64 a0_1) := (blk_cell BK168.out 1).trans rfl; have hcz38_2 : w37.cell? ⟨gb168, 2, none⟩ = some (.int .i64 a0_2) := (blk_cell BK168.out 2).trans rfl; have hcz38_3 : w37.cell? ⟨gb168, 3, none⟩ = some (.int .i64 a0_3) := (blk_cell BK168.out 3).trans rfl; have hcz38_4 : w37.cell? ⟨gb168, 4, none⟩ = some (.int .i64 a0_4) := (blk_cell BK168.out 4).trans rfl; have hcz38_5 : w37.cell? ⟨gb168, 5, none⟩ = some (.int .i64 a0_5) := (blk_cell BK168.out 5).trans rfl; have hcz38_6 : w37.cell? ⟨gb168, 6, none⟩ = some (.int .i64 a0_6) := (blk_cell BK168.out 6).trans rfl; have hcz38_7 : w37.cell? ⟨gb168, 7, none⟩ = some (.int .i64 a0_7) := (blk_cell BK168.out 7).trans rfl; have hcz38_8 : w37.cell? ⟨gb168, 8, none⟩ = some (.int .i64 a0_8) := (blk_cell BK168.out 8).trans rfl; have hcz38_9 : w37.cell? ⟨gb168, 9, none⟩ = some (.bool a0_9) := (blk_cell BK168.out 9).trans rfl; have hfz38_0 := blk_frozen BK168.out 0; have hfz38_1 := blk_frozen BK168.out 1; have hfz38_2 := blk_frozen BK168.out 2; have hfz38_3 := blk_frozen BK168.out 3; have hfz38_4 := blk_frozen BK168.out 4; have hfz38_5 := blk_frozen BK168.out 5; have hfz38_6 := blk_frozen BK168.out 6; have hfz38_7 := blk_frozen BK168.out 7; have hfz38_8 := blk_frozen BK168.out 8; have hfz38_9 := blk_frozen BK168.out 9) | ((with_reducible refine gate_callee (f := 42) rfl ?_); refine goesL_ (some 5) rfl rfl Try.func42 (by kernel_rfl) rfl #[.int .i64 a0_0, .int .i64 1, .int .i64 16777215] rfl (by (try simp only [List.map_toArray, List.map_cons, List.map_nil]); first | done | rfl | (simp only [List.length_drop, List.length_take]; rfl)) ?_; (with_reducible refine (bailiwickref14_in.calls a0_0 1 16777215 true _ A2.out).mono ?_); rintro e w' ⟨rfl, ⟨nd, rfl⟩⟩; refine ⟨_, rfl, ?_⟩) | (go_at_call 42; (with_reducible refine (bailiwickref14_in.calls a0_1 0 16777215 true _ A4.out).mono ?_); rintro e w' ⟨rfl, ⟨nd, rfl⟩⟩))
        go_ret
        exact ⟨by first | rfl | (simp [errW_none, errW_some] <;> rfl) | (simp [*, errW_none, errW_some] <;> rfl), by repeat (first | (with_reducible first | exact HB.out | apply below_alloc | apply pw_below_drewN | apply below_drew1 | refine below_set ?_ GE168.out) | exact HB.out)⟩
    · replace c5 := Bool.eq_false_iff.mpr c5
      subst c5
      have H1 : (some false) = some r := by rw [if_neg (show ¬ (false = true) by decide)] at H; exact H
      clear H
      have H := H1
      clear H1
      obtain rfl := Option.some.inj H
      go_enter Try.func23, Try.ntmps23
      go_wp2_with (first | ((with_reducible refine gate_dst (N := 1) rfl ?_); refine box_event ?hg (N := 1) ?hd (cs := #[.int .i64 a0_0, .int .i64 a0_1, .int .i64 a0_2, .int .i64 a0_3, .int .i64 a0_4, .int .i64 a0_5, .int .i64 a0_6, .int .i64 a0_7, .int .i64 a0_8, .bool a0_9]) (t := 23) ?hr ?_; (case hd => rfl); (case hg => rfl); (case hr => first | (go_simp; done) | (go_simp; rfl)); intro gb168 hg w39 hbox hb; have n0_ := Aside0.mk (below_step (by repeat (first | (with_reducible first | exact HB.out | apply below_alloc | apply pw_below_drewN | apply below_drew1) | exact HB.out)) hb); have n1_ := Aside0.mk (hbox); have n2_ := Aside0.mk ((by rw [hg]; exact (below_size (by repeat (first | (with_reducible first | exact HB.out | apply below_alloc | apply pw_below_drewN | apply below_drew1) | exact HB.out))) : w.heap.size ≤ gb168)); have n3_ := Aside0.mk ((by rw [hg]; exact (below_size (by repeat (first | (with_reducible first | exact HB.out | apply below_alloc | apply pw_below_drewN | apply below_drew1) | exact HB.out))) : w.heap.size ≤ gb168)); clear HB; have HB := n0_; have BK168 := n1_; have GW168 := n2_; have GE168 := n3_; clear n0_ n1_ n2_ n3_; clear hb hbox hg; have hcz40_0 : w39.cell? ⟨gb168, 0, none⟩ = some (.int .i64 a0_0) := (blk_cell BK168.out 0).trans rfl; have hcz40_1 : w39.cell? ⟨gb168, 1, none⟩ = some (.int .i64 a0_1) := (blk_cell BK168.out 1).trans rfl; have hcz40_2 : w39.cell? ⟨gb168, 2, none⟩ = some (.int .i64 a0_2) := (blk_cell BK168.out 2).trans rfl; have hcz40_3 : w39.cell? ⟨gb168, 3, none⟩ = some (.int .i64 a0_3) := (blk_cell BK168.out 3).trans rfl; have hcz40_4 : w39.cell? ⟨gb168, 4, none⟩ = some (.int .i64 a0_4) := (blk_cell BK168.out 4).trans rfl; have hcz40_5 : w39.cell? ⟨gb168, 5, none⟩ = some (.int .i64 a0_5) := (blk_cell BK168.out 5).trans rfl; have hcz40_6 : w39.cell? ⟨gb168, 6, none⟩ = some (.int .i64 a0_6) := (blk_cell BK168.out 6).trans rfl; have hcz40_7 : w39.cell? ⟨gb168, 7, none⟩ = some (.int .i64 a0_7) := (blk_cell BK168.out 7).trans rfl; have hcz40_8 : w39.cell? ⟨gb168, 8, none⟩ = some (.int .i64 a0_8) := (blk_cell BK168.out 8).trans rfl; have hcz40_9 : w39.cell? ⟨gb168, 9, none⟩ = some (.bool a0_9) := (blk_cell BK168.out 9).trans rfl; have hfz40_0 := blk_frozen BK168.out 0; have hfz40_1 := blk_frozen BK168.out 1; have hfz40_2 := blk_frozen BK168.out 2; have hfz40_3 := blk_frozen BK168.out 3; have hfz40_4 := blk_frozen BK168.out 4; have hfz40_5 := blk_frozen BK168.out 5; have hfz40_6 := blk_frozen BK168.out 6; have hfz40_7 := blk_frozen BK168.out 7; have hfz40_8 := blk_frozen BK168.out 8; have hfz40_9 := blk_frozen BK168.out 9) | ((with_reducible refine gate_callee (f := 42) rfl ?_); refine goesL_ (some 5) rfl rfl Try.func42 (by kernel_rfl) rfl #[.int .i64 a0_0, .int .i64 1, .int .i64 16777215] rfl (by (try simp only [List.map_toArray, List.map_cons, List.map_nil]); first | done | rfl | (simp only [List.length_drop, List.length_take]; rfl)) ?_; (with_reducible refine (bailiwickref14_in.calls a0_0 1 16777215 true _ A2.out).mono ?_); rintro e w' ⟨rfl, ⟨nd, rfl⟩⟩; refine ⟨_, rfl, ?_⟩) | (go_at_call 42; (with_reducible refine (bailiwickref14_in.calls a0_1 0 16777215 false _ A4.out).mono ?_); rintro e w' ⟨rfl, ⟨nd, rfl⟩⟩))
      go_ret
      exact ⟨by first | rfl | (simp [errW_none, errW_some] <;> rfl) | (simp [*, errW_none, errW_some] <;> rfl), by repeat (first | (with_reducible first | exact HB.out | apply below_alloc | apply pw_below_drewN | apply below_drew1 | refine below_set ?_ GE168.out) | exact HB.out)⟩
  · replace c3 := Bool.eq_false_iff.mpr c3
    subst c3
    have H1 : (some false) = some r := by rw [if_neg (show ¬ (false = true) by decide)] at H; exact H
    clear H
    have H := H1
    clear H1
    obtain rfl := Option.some.inj H
    go_enter Try.func23, Try.ntmps23
    go_wp2_with (first | ((with_reducible refine gate_dst (N := 1) rfl ?_); refine box_event ?hg (N := 1) ?hd (cs := #[.int .i64 a0_0, .int .i64 a0_1, .int .i64 a0_2, .int .i64 a0_3, .int .i64 a0_4, .int .i64 a0_5, .int .i64 a0_6, .int .i64 a0_7, .int .i64 a0_8, .bool a0_9]) (t := 23) ?hr ?_; (case hd => rfl); (case hg => rfl); (case hr => first | (go_simp; done) | (go_simp; rfl)); intro gb168 hg w41 hbox hb; have n0_ := Aside0.mk (below_step (by repeat (first | (with_reducible first | exact HB.out | apply below_alloc | apply pw_below_drewN | apply below_drew1) | exact HB.out)) hb); have n1_ := Aside0.mk (hbox); have n2_ := Aside0.mk ((by rw [hg]; exact (below_size (by repeat (first | (with_reducible first | exact HB.out | apply below_alloc | apply pw_below_drewN | apply below_drew1) | exact HB.out))) : w.heap.size ≤ gb168)); have n3_ := Aside0.mk ((by rw [hg]; exact (below_size (by repeat (first | (with_reducible first | exact HB.out | apply below_alloc | apply pw_below_drewN | apply below_drew1) | exact HB.out))) : w.heap.size ≤ gb168)); clear HB; have HB := n0_; have BK168 := n1_; have GW168 := n2_; have GE168 := n3_; clear n0_ n1_ n2_ n3_; clear hb hbox hg; have hcz42_0 : w41.cell? ⟨gb168, 0, none⟩ = some (.int .i64 a0_0) := (blk_cell BK168.out 0).trans rfl; have hcz42_1 : w41.cell? ⟨gb168, 1, none⟩ = some (.int .i64 a0_1) := (blk_cell BK168.out 1).trans rfl; have hcz42_2 : w41.cell? ⟨gb168, 2, none⟩ = some (.int .i64 a0_2) := (blk_cell BK168.out 2).trans rfl; have hcz42_3 : w41.cell? ⟨gb168, 3, none⟩ = some (.int .i64 a0_3) := (blk_cell BK168.out 3).trans rfl; have hcz42_4 : w41.cell? ⟨gb168, 4, none⟩ = some (.int .i64 a0_4) := (blk_cell BK168.out 4).trans rfl; have hcz42_5 : w41.cell? ⟨gb168, 5, none⟩ = some (.int .i64 a0_5) := (blk_cell BK168.out 5).trans rfl; have hcz42_6 : w41.cell? ⟨gb168, 6, none⟩ = some (.int .i64 a0_6) := (blk_cell BK168.out 6).trans rfl; have hcz42_7 : w41.cell? ⟨gb168, 7, none⟩ = some (.int .i64 a0_7) := (blk_cell BK168.out 7).trans rfl; have hcz42_8 : w41.cell? ⟨gb168, 8, none⟩ = some (.int .i64 a0_8) := (blk_cell BK168.out 8).trans rfl; have hcz42_9 : w41.cell? ⟨gb168, 9, none⟩ = some (.bool a0_9) := (blk_cell BK168.out 9).trans rfl; have hfz42_0 := blk_frozen BK168.out 0; have hfz42_1 := blk_frozen BK168.out 1; have hfz42_2 := blk_frozen BK168.out 2; have hfz42_3 := blk_frozen BK168.out 3; have hfz42_4 := blk_frozen BK168.out 4; have hfz42_5 := blk_frozen BK168.out 5; have hfz42_6 := blk_frozen BK168.out 6; have hfz42_7 := blk_frozen BK168.out 7; have hfz42_8 := blk_frozen BK168.out 8; have hfz42_9 := blk_frozen BK168.out 9) | ((with_reducible refine gate_callee (f := 42) rfl ?_); refine goesL_ (some 5) rfl rfl Try.func42 (by kernel_rfl) rfl #[.int .i64 a0_0, .int .i64 1, .int .i64 16777215] rfl (by (try simp only [List.map_toArray, List.map_cons, List.map_nil]); first | done | rfl | (simp only [List.length_drop, List.length_take]; rfl)) ?_; (with_reducible refine (bailiwickref14_in.calls a0_0 1 16777215 false _ A2.out).mono ?_); rintro e w' ⟨rfl, ⟨nd, rfl⟩⟩; refine ⟨_, rfl, ?_⟩))
    go_ret
    exact ⟨by first | rfl | (simp [errW_none, errW_some] <;> rfl) | (simp [*, errW_none, errW_some] <;> rfl), by repeat (first | (with_reducible first | exact HB.out | apply below_alloc | apply pw_below_drewN | apply below_drew1 | refine below_set ?_ GE168.out) | exact HB.out)⟩

end Go.Proofs.Ytapfidadgafpbaa.P
