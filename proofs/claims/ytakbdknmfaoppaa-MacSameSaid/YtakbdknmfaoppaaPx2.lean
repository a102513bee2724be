-- Written by a program of this session (gp.py), which drives the print with some lines turned. Not trusted: Lean checks it.
import Derived.Test.YtakbdknmfaoppaaPx0
import Derived.Test.YtakbdknmfaoppaaPx1
namespace Go.Proofs.Ytakbdknmfaoppaa.P
open Go.RowKit Go.Proofs.YtakbdknmfaoppaaW.PrintWords Go.Proofs.YtakbdknmfaoppaaW.PrintLast Go.Proofs.YtakbdknmfaoppaaW.PrintMore
attribute [local go_sem] max2_int min2_int max_two min_two max_three min_three max_four min_four emod_u8 emod_u16 emod_u32
set_option linter.unusedVariables false
set_option linter.unusedSimpArgs false

/-! ### bailiwickref03_spread: function 29 -/
mutual
def bailiwickref03_spread.l0 : Nat → ByteArray → List Int → Int → Option (List Int)
  | 0, _, _, _ => none
  | k + 1, x0, x3, x4 => if x4 < 16 then (if 0 ≤ (wrap64 (4 * x4)) then (if (wrap64 (4 * x4)) < (x0.size : Int) then (if 0 ≤ (wrap64 ((wrap64 (4 * x4)) + 1)) then (if (wrap64 ((wrap64 (4 * x4)) + 1)) < (x0.size : Int) then (if 0 ≤ (wrap64 ((wrap64 (4 * x4)) + 2)) then (if (wrap64 ((wrap64 (4 * x4)) + 2)) < (x0.size : Int) then (if 0 ≤ (wrap64 ((wrap64 (4 * x4)) + 3)) then (if (wrap64 ((wrap64 (4 * x4)) + 3)) < (x0.size : Int) then (if x3.length < 35184372088832 then (bailiwickref03_spread.l0 k x0 (x3 ++ [Go.bits .or .u32 (Go.bits .or .u32 (Go.bits .or .u32 ((((bt x0 (wrap64 (4 * x4))) % 4294967296) * 16777216) % 4294967296) ((((bt x0 (wrap64 ((wrap64 (4 * x4)) + 1))) % 4294967296) * 65536) % 4294967296)) ((((bt x0 (wrap64 ((wrap64 (4 * x4)) + 2))) % 4294967296) * 256) % 4294967296)) ((bt x0 (wrap64 ((wrap64 (4 * x4)) + 3))) % 4294967296)]) (wrap64 (x4 + 1))) else (none)) else (none)) else (none)) else (none)) else (none)) else (none)) else (none)) else (none)) else (none)) else (bailiwickref03_spread.l1 k x3 16)
def bailiwickref03_spread.l1 : Nat → List Int → Int → Option (List Int)
  | 0, _, _ => none
  | k + 1, x3, x5 => if x5 < 64 then (if 0 ≤ (wrap64 (x5 - 15)) then (if (wrap64 (x5 - 15)) < (x3.length : Int) then (if 0 ≤ (wrap64 (x5 - 2)) then (if (wrap64 (x5 - 2)) < (x3.length : Int) then ((bailiwickref03_right.f (rd x3 (wrap64 (x5 - 15))) 7).bind fun t122 => ((bailiwickref03_right.f (rd x3 (wrap64 (x5 - 15))) 18).bind fun t123 => ((bailiwickref03_right.f (rd x3 (wrap64 (x5 - 2))) 17).bind fun t124 => ((bailiwickref03_right.f (rd x3 (wrap64 (x5 - 2))) 19).bind fun t125 => (if 0 ≤ (wrap64 (x5 - 7)) then (if (wrap64 (x5 - 7)) < (x3.length : Int) then (if 0 ≤ (wrap64 (x5 - 16)) then (if (wrap64 (x5 - 16)) < (x3.length : Int) then (if x3.length < 35184372088832 then (bailiwickref03_spread.l1 k (x3 ++ [((((((Go.bits .xor .u32 (Go.bits .xor .u32 t124 t125) ((rd x3 (wrap64 (x5 - 2))) / 1024)) + (rd x3 (wrap64 (x5 - 7)))) % 4294967296) + (Go.bits .xor .u32 (Go.bits .xor .u32 t122 t123) ((rd x3 (wrap64 (x5 - 15))) / 8))) % 4294967296) + (rd x3 (wrap64 (x5 - 16)))) % 4294967296]) (wrap64 (x5 + 1))) else (none)) else (none)) else (none)) else (none)) else (none)))))) else (none)) else (none)) else (none)) else (none)) else (some x3)
end
def bailiwickref03_spread.f (k : Nat) (a0 : ByteArray) : Option (List Int) := bailiwickref03_spread.l0 k a0 ([] : List Int) 0
theorem bailiwickref03_spread.mono_l : ∀ k, (∀ y0 y1 y2, LeO (bailiwickref03_spread.l0 k y0 y1 y2) (bailiwickref03_spread.l0 (k + 1) y0 y1 y2)) ∧ (∀ y0 y1, LeO (bailiwickref03_spread.l1 k y0 y1) (bailiwickref03_spread.l1 (k + 1) y0 y1))
  | 0 => ⟨fun _ _ _ r h => by simp [bailiwickref03_spread.l0] at h, fun _ _ r h => by simp [bailiwickref03_spread.l1] at h⟩
  | k + 1 => by
    obtain ⟨ih0, ih1⟩ := bailiwickref03_spread.mono_l k
    refine ⟨?_, ?_⟩
    · intro y0 y1 y2
      unfold bailiwickref03_spread.l0
      repeat' first
      | (with_reducible exact ih0 _ _ _)
      | (with_reducible exact ih1 _ _)
      | (with_reducible exact LeO.refl _)
      | (with_reducible exact LeO.none _)
      | (with_reducible refine LeO.ite ?_ ?_)
      | (with_reducible refine LeO.bind ?_ (fun _ => ?_))
      | exact ih0 _ _ _
      | exact ih1 _ _
      | exact LeO.none _
      | refine LeO.ite ?_ ?_
      | refine LeO.bind ?_ (fun _ => ?_)
    · intro y0 y1
      unfold bailiwickref03_spread.l1
      repeat' first
      | (with_reducible exact ih0 _ _ _)
      | (with_reducible exact ih1 _ _)
      | (with_reducible exact LeO.refl _)
      | (with_reducible exact LeO.none _)
      | (with_reducible refine LeO.ite ?_ ?_)
      | (with_reducible refine LeO.bind ?_ (fun _ => ?_))
      | exact ih0 _ _ _
      | exact ih1 _ _
      | exact LeO.none _
      | refine LeO.ite ?_ ?_
      | refine LeO.bind ?_ (fun _ => ?_)
theorem bailiwickref03_spread.mono : ∀ a0 k, LeO (bailiwickref03_spread.f k a0) (bailiwickref03_spread.f (k + 1) a0) := by
  intro a0 k
  obtain ⟨ih0, ih1⟩ := bailiwickref03_spread.mono_l k
  unfold bailiwickref03_spread.f
  repeat' first
      | (with_reducible exact ih0 _ _ _)
      | (with_reducible exact ih1 _ _)
      | (with_reducible exact LeO.refl _)
      | (with_reducible exact LeO.none _)
      | (with_reducible refine LeO.ite ?_ ?_)
      | (with_reducible refine LeO.bind ?_ (fun _ => ?_))
      | exact ih0 _ _ _
      | exact ih1 _ _
      | exact LeO.none _
      | refine LeO.ite ?_ ?_
      | refine LeO.bind ?_ (fun _ => ?_)
def bailiwickref03_spread.T5 : Bool × List (List Nat × List Nat) := (true, [([], []), ([], []), ([], []), ([2], [2]), ([1, 3], [1, 3]), ([4], [4]), ([5], [5]), ([], []), ([], []), ([8], [8]), ([9], [9]), ([7, 10], [7, 10]), ([11], [11]), ([12], [12]), ([6, 13], [6, 13]), ([], []), ([], []), ([16], [16]), ([17], [17]), ([15, 18], [15, 18]), ([19], [19]), ([20], [20]), ([14, 21], [14, 21]), ([], []), ([], []), ([24], [24]), ([25], [25]), ([23, 26], [23, 26]), ([27], [27]), ([22, 28], [22, 28]), ([29], [29]), ([0, 30], [0, 30]), ([31, 31, 0, 1, 2, 3, 4, 5, 6, 7, 8, 9, 10, 11, 12, 13, 14, 15, 16, 17, 18, 19, 20, 21, 22, 23, 24, 25, 26, 27, 28, 29, 30, 31], [0, 31])])
def bailiwickref03_spread.B5 : List Nat := [0, 0, 0, 4, 14, 30, 62, 0, 0, 256, 768, 1920, 3968, 8064, 16382, 0, 0, 65536, 196608, 491520, 1015808, 2064384, 4194302, 0, 0, 16777216, 50331648, 125829120, 260046848, 536870910, 1073741822, 2147483647, 4294967295]
theorem bailiwickref03_spread.tab5 : rtab .any (opsOf Try.f29 5) = bailiwickref03_spread.T5 := by kernel_rfl
theorem bailiwickref03_spread.bits5 : waitsOk bailiwickref03_spread.T5.2 bailiwickref03_spread.B5 = true := by kernel_rfl
def bailiwickref03_spread.T13 : Bool × List (List Nat × List Nat) := (true, [([], []), ([], []), ([], []), ([], []), ([3], [3]), ([2, 4], [2, 4]), ([5], [5]), ([1, 6], [1, 6]), ([], []), ([7, 8], [7, 8]), ([], []), ([], []), ([11], [11]), ([10, 12], [10, 12]), ([13], [13]), ([9, 14], [9, 14]), ([15], [15]), ([0, 16], [0, 16]), ([17, 17, 0, 1, 2, 3, 4, 5, 6, 7, 8, 9, 10, 11, 12, 13, 14, 15, 16, 17], [0, 2, 10, 17])])
def bailiwickref03_spread.B13 : List Nat := [0, 0, 0, 0, 8, 28, 60, 126, 0, 510, 0, 0, 2048, 7168, 15360, 32766, 65534, 131071, 262143]
theorem bailiwickref03_spread.tab13 : rtab .any (opsOf Try.f29 13) = bailiwickref03_spread.T13 := by kernel_rfl
theorem bailiwickref03_spread.bits13 : waitsOk bailiwickref03_spread.T13.2 bailiwickref03_spread.B13 = true := by kernel_rfl
set_option maxHeartbeats 8000000 in
set_option maxRecDepth 100000 in
theorem bailiwickref03_spread.calls (k : Nat) (a0 : ByteArray) (r : List Int) (w : World) (h : bailiwickref03_spread.f k a0 = some r) :
    Calls Try.prog 29 #[.string a0] w fun e w' => ∃ v0_ : Value, e = .returned (v0_) ∧ Kd.R (Kd.int .u32) 34 w' w.heap.size (fun _ => True) v0_ r ∧ Below w.heap.size w w' := by
  have HB := Aside0.mk (Below.refl w.heap.size w)
  have H : (bailiwickref03_spread.l0 k a0 ([] : List Int) 0) = some r := h
  clear h
  have H' := Aside0.mk H
  clear H
  go_enter Try.func29, Try.ntmps29
  (try dsimp only [List.append])
  go_wp2
  go_loopg [3, 4] k (fun kq v3 v4 w' => ∃ (x3_1 : List Int) (x4_1 : Int), v4 = .int .i64 x4_1 ∧ Aside0 (bailiwickref03_spread.l0 kq a0 x3_1 x4_1 = some r) ∧ Aside0 (kq ≤ k) ∧ Aside0 (Kd.R (Kd.int .u32) 34 w' w.heap.size (fun _ => True) v3 x3_1) ∧ Aside0 (Below w.heap.size w w'))
  case atStart => exact ⟨(([] : List Int)), (0), (by first | rfl | (simp; done) | (simp [*]; done)), H', ⟨Nat.le_refl _⟩, ⟨by first | exact Kd.R_nil _ _ _ _ _ | exact Kd.N_nil _ _ _ _ _ | exact Kd.V_nil _ _ _ _ _ | exact Kd.Q_nil _ _ _ _ _ | exact Kd.S_nil _ _ _ _ _⟩, ⟨by repeat (first | (with_reducible first | exact HB.out | apply below_alloc | apply pw_below_drewN | apply below_drew1) | exact HB.out)⟩⟩
  case round =>
    clear H'
    obtain ⟨x3_1, x4_1, rfl, HA, HK1, HO_3, HB⟩ := hrel
    cases gk with
    | zero => exact absurd HA.out (by simp [bailiwickref03_spread.l0])
    | succ k1 =>
      have H := HA.out
      clear HA
      simp only [bailiwickref03_spread.l0] at H
      by_cases c2 : x4_1 < 16
      · rw [if_pos c2] at H
        have c2b0 : decide (x4_1 < 16) = true := decide_eq_true c2
        clear c2
        obtain ⟨ji3, hji3⟩ : ∃ j_ : Int, (wrap64 (4 * x4_1)) = j_ := ⟨_, rfl⟩
        replace H : (if 0 ≤ (ji3) then (if (ji3) < (a0.size : Int) then (if 0 ≤ (wrap64 ((ji3) + 1)) then (if (wrap64 ((ji3) + 1)) < (a0.size : Int) then (if 0 ≤ (wrap64 ((ji3) + 2)) then (if (wrap64 ((ji3) + 2)) < (a0.size : Int) then (if 0 ≤ (wrap64 ((ji3) + 3)) then (if (wrap64 ((ji3) + 3)) < (a0.size : Int) then (if x3_1.length < 35184372088832 then (bailiwickref03_spread.l0 k1 a0 (x3_1 ++ [Go.bits .or .u32 (Go.bits .or .u32 (Go.bits .or .u32 ((((bt a0 (ji3)) % 4294967296) * 16777216) % 4294967296) ((((bt a0 (wrap64 ((ji3) + 1))) % 4294967296) * 65536) % 4294967296)) ((((bt a0 (wrap64 ((ji3) + 2))) % 4294967296) * 256) % 4294967296)) ((bt a0 (wrap64 ((ji3) + 3))) % 4294967296)]) (wrap64 (x4_1 + 1))) else (none)) else (none)) else (none)) else (none)) else (none)) else (none)) else (none)) else (none)) else (none)) = some r := by first | (rw [hji3] at H; exact H) | (simp only [hji3] at H ⊢; exact H)
        have hji3w : (IntKind.i64.wrap (4 * x4_1)) = ji3 := (i64_w _).trans hji3
        by_cases c4 : 0 ≤ (ji3)
        · rw [if_pos c4] at H
          have c4b0 : decide (0 ≤ (ji3)) = true := decide_eq_true c4
          clear c4
          by_cases c5 : (ji3) < (a0.size : Int)
          · rw [if_pos c5] at H
            have c5b0 : decide ((ji3) < (a0.size : Int)) = true := decide_eq_true c5
            clear c5
            obtain ⟨ji7, hji7⟩ : ∃ j_ : Int, (wrap64 ((ji3) + 1)) = j_ := ⟨_, rfl⟩
            replace H : (if 0 ≤ (ji7) then (if (ji7) < (a0.size : Int) then (if 0 ≤ (wrap64 ((ji3) + 2)) then (if (wrap64 ((ji3) + 2)) < (a0.size : Int) then (if 0 ≤ (wrap64 ((ji3) + 3)) then (if (wrap64 ((ji3) + 3)) < (a0.size : Int) then (if x3_1.length < 35184372088832 then (bailiwickref03_spread.l0 k1 a0 (x3_1 ++ [Go.bits .or .u32 (Go.bits .or .u32 (Go.bits .or .u32 ((((bt a0 (ji3)) % 4294967296) * 16777216) % 4294967296) ((((bt a0 (ji7)) % 4294967296) * 65536) % 4294967296)) ((((bt a0 (wrap64 ((ji3) + 2))) % 4294967296) * 256) % 4294967296)) ((bt a0 (wrap64 ((ji3) + 3))) % 4294967296)]) (wrap64 (x4_1 + 1))) else (none)) else (none)) else (none)) else (none)) else (none)) else (none)) else (none)) = some r := by first | (rw [hji7] at H; exact H) | (simp only [hji7] at H ⊢; exact H)
            have hji7w : (IntKind.i64.wrap ((ji3) + 1)) = ji7 := (i64_w _).trans hji7
            by_cases c8 : 0 ≤ (ji7)
            · rw [if_pos c8] at H
              have c8b0 : decide (0 ≤ (ji7)) = true := decide_eq_true c8
              clear c8
              by_cases c9 : (ji7) < (a0.size : Int)
              · rw [if_pos c9] at H
                have c9b0 : decide ((ji7) < (a0.size : Int)) = true := decide_eq_true c9
                clear c9
                obtain ⟨ji11, hji11⟩ : ∃ j_ : Int, (wrap64 ((ji3) + 2)) = j_ := ⟨_, rfl⟩
                replace H : (if 0 ≤ (ji11) then (if (ji11) < (a0.size : Int) then (if 0 ≤ (wrap64 ((ji3) + 3)) then (if (wrap64 ((ji3) + 3)) < (a0.size : Int) then (if x3_1.length < 35184372088832 then (bailiwickref03_spread.l0 k1 a0 (x3_1 ++ [Go.bits .or .u32 (Go.bits .or .u32 (Go.bits .or .u32 ((((bt a0 (ji3)) % 4294967296) * 16777216) % 4294967296) ((((bt a0 (ji7)) % 4294967296) * 65536) % 4294967296)) ((((bt a0 (ji11)) % 4294967296) * 256) % 4294967296)) ((bt a0 (wrap64 ((ji3) + 3))) % 4294967296)]) (wrap64 (x4_1 + 1))) else (none)) else (none)) else (none)) else (none)) else (none)) = some r := by first | (rw [hji11] at H; exact H) | (simp only [hji11] at H ⊢; exact H)
                have hji11w : (IntKind.i64.wrap ((ji3) + 2)) = ji11 := (i64_w _).trans hji11
                by_cases c12 : 0 ≤ (ji11)
                · rw [if_pos c12] at H
                  have c12b0 : decide (0 ≤ (ji11)) = true := decide_eq_true c12
                  clear c12
                  by_cases c13 : (ji11) < (a0.size : Int)
                  · rw [if_pos c13] at H
                    have c13b0 : decide ((ji11) < (a0.size : Int)) = true := decide_eq_true c13
                    clear c13
                    obtain ⟨ji15, hji15⟩ : ∃ j_ : Int, (wrap64 ((ji3) + 3)) = j_ := ⟨_, rfl⟩
                    replace H : (if 0 ≤ (ji15) then (if (ji15) < (a0.size : Int) then (if x3_1.length < 35184372088832 then (bailiwickref03_spread.l0 k1 a0 (x3_1 ++ [Go.bits .or .u32 (Go.bits .or .u32 (Go.bits .or .u32 ((((bt a0 (ji3)) % 4294967296) * 16777216) % 4294967296) ((((bt a0 (ji7)) % 4294967296) * 65536) % 4294967296)) ((((bt a0 (ji11)) % 4294967296) * 256) % 4294967296)) ((bt a0 (ji15)) % 4294967296)]) (wrap64 (x4_1 + 1))) else (none)) else (none)) else (none)) = some r := by first | (rw [hji15] at H; exact H) | (simp only [hji15] at H ⊢; exact H)
                    have hji15w : (IntKind.i64.wrap ((ji3) + 3)) = ji15 := (i64_w _).trans hji15
                    by_cases c16 : 0 ≤ (ji15)
                    · rw [if_pos c16] at H
                      have c16b0 : decide (0 ≤ (ji15)) = true := decide_eq_true c16
                      clear c16
                      by_cases c17 : (ji15) < (a0.size : Int)
                      · rw [if_pos c17] at H
                        have c17b0 : decide ((ji15) < (a0.size : Int)) = true := decide_eq_true c17
                        clear c17
                        by_cases c19 : x3_1.length < 35184372088832
                        · rw [if_pos c19] at H
                          have LMc19 := Aside0.mk c19
                          clear c19
                          obtain ⟨y117, hy117⟩ : ∃ y_ : List Int, y_ = (x3_1 ++ [Go.bits .or .u32 (Go.bits .or .u32 (Go.bits .or .u32 ((((bt a0 (ji3)) % 4294967296) * 16777216) % 4294967296) ((((bt a0 (ji7)) % 4294967296) * 65536) % 4294967296)) ((((bt a0 (ji11)) % 4294967296) * 256) % 4294967296)) ((bt a0 (ji15)) % 4294967296)]) := ⟨_, rfl⟩
                          replace H : (bailiwickref03_spread.l0 k1 a0 y117 (wrap64 (x4_1 + 1))) = some r := by first | (rw [hy117]; with_reducible exact H) | (have H2_ := (Option.bind_some _ _).symm.trans H; rw [hy117]; with_reducible exact H2_) | (have H2_ := (Option.bind_some _ _).symm.trans H; with_reducible exact H2_) | with_reducible exact H | (rw [hy117]; exact H) | exact H
                          have Ny117 := Aside0.mk hy117
                          clear hy117
                          have H' := Aside0.mk H
                          clear H
                          try go_wp2
                          have n0_ := Aside0.mk (Kd.R_drew HO_3.out)
                          have n1_ := Aside0.mk (below_drew1 HB.out)
                          clear HO_3
                          clear HB
                          have HO_3 := n0_
                          have HB := n1_
                          clear n0_ n1_
                          have p6 : 0 ≤ ((ji3) : Int) := of_decide_eq_true (by first | (with_reducible assumption) | assumption)
                          have q6 : (ji3) < (a0.size : Int) := of_decide_eq_true (by first | (with_reducible assumption) | assumption)
                          have hx6 := bt_at a0 (ji3)
                          replace p6 := eq_true p6
                          replace q6 := eq_true q6
                          have p10 : 0 ≤ ((ji7) : Int) := of_decide_eq_true (by first | (with_reducible assumption) | assumption)
                          have q10 : (ji7) < (a0.size : Int) := of_decide_eq_true (by first | (with_reducible assumption) | assumption)
                          have hx10 := bt_at a0 (ji7)
                          replace p10 := eq_true p10
                          replace q10 := eq_true q10
                          have p14 : 0 ≤ ((ji11) : Int) := of_decide_eq_true (by first | (with_reducible assumption) | assumption)
                          have q14 : (ji11) < (a0.size : Int) := of_decide_eq_true (by first | (with_reducible assumption) | assumption)
                          have hx14 := bt_at a0 (ji11)
                          replace p14 := eq_true p14
                          replace q14 := eq_true q14
                          have p18 : 0 ≤ ((ji15) : Int) := of_decide_eq_true (by first | (with_reducible assumption) | assumption)
                          have q18 : (ji15) < (a0.size : Int) := of_decide_eq_true (by first | (with_reducible assumption) | assumption)
                          have hx18 := bt_at a0 (ji15)
                          replace p18 := eq_true p18
                          replace q18 := eq_true q18
                          refine start_ (n := 33) (S := fun w' => True) (ds := []) #[false, false, false, false, false, false, false, false, false, false, false, false, false, false, false, false, false, false, false, false, false, false, false, false, false, false, false, false, false, false, false, false, false] (by kernel_rfl) rfl rfl trivial (fun hHeld => ?_); refine with_tabW bailiwickref03_spread.tab5 bailiwickref03_spread.bits5 (fun HT_ HW_ => ?_)
                          generalize wr.drew = w20 at HO_3 HB hHeld ⊢
                          refine pure_ (i := 0) (N := some 14) (v := ?_) (a' := ?_) #[true, false, false, false, false, false, false, false, false, false, false, false, false, false, false, false, false, false, false, false, false, false, false, false, false, false, false, false, false, false, false, false, false] rfl rfl (any_of HT_.out (by kernel_rfl)) (fun _ _ _ h => h) (Or.inl ⟨by rfl, ?_⟩) ?_ ?_
                          rotate_left
                          · intro w'
                            go_simp
                            with_reducible rfl
                          rotate_left
                          · simp only [Act.put, List.setIfInBounds_toArray, List.set_cons_zero, List.set_cons_succ, i64_w, i32_w]
                            rfl
                          refine pure_ (i := 1) (N := some 15) (v := ?_) (a' := ?_) #[true, true, false, false, false, false, false, false, false, false, false, false, false, false, false, false, false, false, false, false, false, false, false, false, false, false, false, false, false, false, false, false, false] rfl rfl (any_of HT_.out (by kernel_rfl)) (fun _ _ _ h => h) (Or.inl ⟨by rfl, ?_⟩) ?_ ?_
                          rotate_left
                          · intro w'
                            go_simp
                            with_reducible rfl
                          rotate_left
                          · simp only [Act.put, List.setIfInBounds_toArray, List.set_cons_zero, List.set_cons_succ, i64_w, i32_w]
                            rfl
                          refine pure_ (i := 2) (N := some 16) (v := ?_) (a' := ?_) #[true, true, true, false, false, false, false, false, false, false, false, false, false, false, false, false, false, false, false, false, false, false, false, false, false, false, false, false, false, false, false, false, false] rfl rfl (any_of HT_.out (by kernel_rfl)) (fun _ _ _ h => h) (Or.inl ⟨by rfl, ?_⟩) ?_ ?_
                          rotate_left
                          · intro w'
                            go_simp
                            with_reducible rfl
                          rotate_left
                          · simp only [Act.put, List.setIfInBounds_toArray, List.set_cons_zero, List.set_cons_succ, i64_w, i32_w]
                            rfl
                          refine pure_ (i := 3) (N := some 17) (v := ?_) (a' := ?_) #[true, true, true, true, false, false, false, false, false, false, false, false, false, false, false, false, false, false, false, false, false, false, false, false, false, false, false, false, false, false, false, false, false] rfl rfl (any_of HT_.out (by kernel_rfl)) (fun _ _ _ h => h) (Or.inl ⟨by rfl, ?_⟩) ?_ ?_
                          rotate_left
                          · intro w'
                            go_simp
                            with_reducible rfl
                          rotate_left
                          · simp only [Act.put, List.setIfInBounds_toArray, List.set_cons_zero, List.set_cons_succ, i64_w, i32_w]
                            rfl
                          refine pure_ (i := 7) (N := some 21) (v := ?_) (a' := ?_) #[true, true, true, true, false, false, false, true, false, false, false, false, false, false, false, false, false, false, false, false, false, false, false, false, false, false, false, false, false, false, false, false, false] rfl rfl (any_of HT_.out (by kernel_rfl)) (fun _ _ _ h => h) (Or.inl ⟨by rfl, ?_⟩) ?_ ?_
                          rotate_left
                          · intro w'
                            go_simp
                            with_reducible rfl
                          rotate_left
                          · simp only [Act.put, List.setIfInBounds_toArray, List.set_cons_zero, List.set_cons_succ, i64_w, i32_w]
                            rfl
                          refine pure_ (i := 8) (N := some 22) (v := ?_) (a' := ?_) #[true, true, true, true, false, false, false, true, true, false, false, false, false, false, false, false, false, false, false, false, false, false, false, false, false, false, false, false, false, false, false, false, false] rfl rfl (any_of HT_.out (by kernel_rfl)) (fun _ _ _ h => h) (Or.inl ⟨by rfl, ?_⟩) ?_ ?_
                          rotate_left
                          · intro w'
                            go_simp
                            with_reducible rfl
                          rotate_left
                          · simp only [Act.put, List.setIfInBounds_toArray, List.set_cons_zero, List.set_cons_succ, i64_w, i32_w]
                            rfl
                          refine pure_ (i := 9) (N := some 23) (v := ?_) (a' := ?_) #[true, true, true, true, false, false, false, true, true, true, false, false, false, false, false, false, false, false, false, false, false, false, false, false, false, false, false, false, false, false, false, false, false] rfl rfl (any_of HT_.out (by kernel_rfl)) (fun _ _ _ h => h) (Or.inl ⟨by rfl, ?_⟩) ?_ ?_
                          rotate_left
                          · intro w'
                            go_simp
                            with_reducible rfl
                          rotate_left
                          · simp only [Act.put, List.setIfInBounds_toArray, List.set_cons_zero, List.set_cons_succ, i64_w, i32_w]
                            rfl
                          refine pure_ (i := 10) (N := some 24) (v := ?_) (a' := ?_) #[true, true, true, true, false, false, false, true, true, true, true, false, false, false, false, false, false, false, false, false, false, false, false, false, false, false, false, false, false, false, false, false, false] rfl rfl (any_of HT_.out (by kernel_rfl)) (fun _ _ _ h => h) (Or.inl ⟨by rfl, ?_⟩) ?_ ?_
                          rotate_left
                          · intro w'
                            go_simp
                            with_reducible rfl
                          rotate_left
                          · simp only [Act.put, List.setIfInBounds_toArray, List.set_cons_zero, List.set_cons_succ, i64_w, i32_w]
                            rfl
                          refine pure_ (i := 15) (N := some 29) (v := ?_) (a' := ?_) #[true, true, true, true, false, false, false, true, true, true, true, false, false, false, false, true, false, false, false, false, false, false, false, false, false, false, false, false, false, false, false, false, false] rfl rfl (any_of HT_.out (by kernel_rfl)) (fun _ _ _ h => h) (Or.inl ⟨by rfl, ?_⟩) ?_ ?_
                          rotate_left
                          · intro w'
                            go_simp
                            with_reducible rfl
                          rotate_left
                          · simp only [Act.put, List.setIfInBounds_toArray, List.set_cons_zero, List.set_cons_succ, i64_w, i32_w]
                            rfl
                          refine pure_ (i := 16) (N := some 30) (v := ?_) (a' := ?_) #[true, true, true, true, false, false, false, true, true, true, true, false, false, false, false, true, true, false, false, false, false, false, false, false, false, false, false, false, false, false, false, false, false] rfl rfl (any_of HT_.out (by kernel_rfl)) (fun _ _ _ h => h) (Or.inl ⟨by rfl, ?_⟩) ?_ ?_
                          rotate_left
                          · intro w'
                            go_simp
                            with_reducible rfl
                          rotate_left
                          · simp only [Act.put, List.setIfInBounds_toArray, List.set_cons_zero, List.set_cons_succ, i64_w, i32_w]
                            rfl
                          refine pure_ (i := 17) (N := some 31) (v := ?_) (a' := ?_) #[true, true, true, true, false, false, false, true, true, true, true, false, false, false, false, true, true, true, false, false, false, false, false, false, false, false, false, false, false, false, false, false, false] rfl rfl (any_of HT_.out (by kernel_rfl)) (fun _ _ _ h => h) (Or.inl ⟨by rfl, ?_⟩) ?_ ?_
                          rotate_left
                          · intro w'
                            go_simp
                            with_reducible rfl
                          rotate_left
                          · simp only [Act.put, List.setIfInBounds_toArray, List.set_cons_zero, List.set_cons_succ, i64_w, i32_w]
                            rfl
                          refine pure_ (i := 18) (N := some 32) (v := ?_) (a' := ?_) #[true, true, true, true, false, false, false, true, true, true, true, false, false, false, false, true, true, true, true, false, false, false, false, false, false, false, false, false, false, false, false, false, false] rfl rfl (any_of HT_.out (by kernel_rfl)) (fun _ _ _ h => h) (Or.inl ⟨by rfl, ?_⟩) ?_ ?_
                          rotate_left
                          · intro w'
                            go_simp
                            with_reducible rfl
                          rotate_left
                          · simp only [Act.put, List.setIfInBounds_toArray, List.set_cons_zero, List.set_cons_succ, i64_w, i32_w]
                            rfl
                          refine pure_ (i := 23) (N := some 37) (v := ?_) (a' := ?_) #[true, true, true, true, false, false, false, true, true, true, true, false, false, false, false, true, true, true, true, false, false, false, false, true, false, false, false, false, false, false, false, false, false] rfl rfl (any_of HT_.out (by kernel_rfl)) (fun _ _ _ h => h) (Or.inl ⟨by rfl, ?_⟩) ?_ ?_
                          rotate_left
                          · intro w'
                            go_simp
                            with_reducible rfl
                          rotate_left
                          · simp only [Act.put, List.setIfInBounds_toArray, List.set_cons_zero, List.set_cons_succ, i64_w, i32_w]
                            rfl
                          refine pure_ (i := 24) (N := some 38) (v := ?_) (a' := ?_) #[true, true, true, true, false, false, false, true, true, true, true, false, false, false, false, true, true, true, true, false, false, false, false, true, true, false, false, false, false, false, false, false, false] rfl rfl (any_of HT_.out (by kernel_rfl)) (fun _ _ _ h => h) (Or.inl ⟨by rfl, ?_⟩) ?_ ?_
                          rotate_left
                          · intro w'
                            go_simp
                            with_reducible rfl
                          rotate_left
                          · simp only [Act.put, List.setIfInBounds_toArray, List.set_cons_zero, List.set_cons_succ, i64_w, i32_w]
                            rfl
                          refine pure_ (i := 25) (N := some 39) (v := ?_) (a' := ?_) #[true, true, true, true, false, false, false, true, true, true, true, false, false, false, false, true, true, true, true, false, false, false, false, true, true, true, false, false, false, false, false, false, false] rfl rfl (any_of HT_.out (by kernel_rfl)) (fun _ _ _ h => h) (Or.inl ⟨by rfl, ?_⟩) ?_ ?_
                          rotate_left
                          · intro w'
                            go_simp
                            with_reducible rfl
                          rotate_left
                          · simp only [Act.put, List.setIfInBounds_toArray, List.set_cons_zero, List.set_cons_succ, i64_w, i32_w]
                            rfl
                          refine pure_ (i := 26) (N := some 40) (v := ?_) (a' := ?_) #[true, true, true, true, false, false, false, true, true, true, true, false, false, false, false, true, true, true, true, false, false, false, false, true, true, true, true, false, false, false, false, false, false] rfl rfl (any_of HT_.out (by kernel_rfl)) (fun _ _ _ h => h) (Or.inl ⟨by rfl, ?_⟩) ?_ ?_
                          rotate_left
                          · intro w'
                            go_simp
                            with_reducible rfl
                          rotate_left
                          · simp only [Act.put, List.setIfInBounds_toArray, List.set_cons_zero, List.set_cons_succ, i64_w, i32_w]
                            rfl
                          refine take_ (i := 4) (N := some 18) (v := ?_) (a' := ?_) #[true, true, true, true, true, false, false, true, true, true, true, false, false, false, false, true, true, true, true, false, false, false, false, true, true, true, true, false, false, false, false, false, false] rfl rfl (take_ofW HT_.out HW_.out (by kernel_rfl)) (fun _ _ _ h => h) (Or.inl ⟨by rfl, ?_⟩) hHeld ?_ ?_
                          rotate_left
                          · intro w' _
                            go_simp
                            with_reducible rfl
                          rotate_left
                          · simp only [Act.put, List.setIfInBounds_toArray, List.set_cons_zero, List.set_cons_succ, i64_w, i32_w]
                            rfl
                          refine pure_ (i := 5) (N := some 19) (v := ?_) (a' := ?_) #[true, true, true, true, true, true, false, true, true, true, true, false, false, false, false, true, true, true, true, false, false, false, false, true, true, true, true, false, false, false, false, false, false] rfl rfl (any_of HT_.out (by kernel_rfl)) (fun _ _ _ h => h) (Or.inl ⟨by rfl, ?_⟩) ?_ ?_
                          rotate_left
                          · intro w'
                            go_simp
                            with_reducible rfl
                          rotate_left
                          · simp only [Act.put, List.setIfInBounds_toArray, List.set_cons_zero, List.set_cons_succ, i64_w, i32_w]
                            rfl
                          refine pure_ (i := 6) (N := some 20) (v := ?_) (a' := ?_) #[true, true, true, true, true, true, true, true, true, true, true, false, false, false, false, true, true, true, true, false, false, false, false, true, true, true, true, false, false, false, false, false, false] rfl rfl (any_of HT_.out (by kernel_rfl)) (fun _ _ _ h => h) (Or.inl ⟨by rfl, ?_⟩) ?_ ?_
                          rotate_left
                          · intro w'
                            go_simp
                            with_reducible rfl
                          rotate_left
                          · simp only [Act.put, List.setIfInBounds_toArray, List.set_cons_zero, List.set_cons_succ, i64_w, i32_w]
                            rfl
                          refine take_ (i := 11) (N := some 25) (v := ?_) (a' := ?_) #[true, true, true, true, true, true, true, true, true, true, true, true, false, false, false, true, true, true, true, false, false, false, false, true, true, true, true, false, false, false, false, false, false] rfl rfl (take_ofW HT_.out HW_.out (by kernel_rfl)) (fun _ _ _ h => h) (Or.inl ⟨by rfl, ?_⟩) hHeld ?_ ?_
                          rotate_left
                          · intro w' _
                            go_simp
                            with_reducible rfl
                          rotate_left
                          · simp only [Act.put, List.setIfInBounds_toArray, List.set_cons_zero, List.set_cons_succ, i64_w, i32_w]
                            rfl
                          refine pure_ (i := 12) (N := some 26) (v := ?_) (a' := ?_) #[true, true, true, true, true, true, true, true, true, true, true, true, true, false, false, true, true, true, true, false, false, false, false, true, true, true, true, false, false, false, false, false, false] rfl rfl (any_of HT_.out (by kernel_rfl)) (fun _ _ _ h => h) (Or.inl ⟨by rfl, ?_⟩) ?_ ?_
                          rotate_left
                          · intro w'
                            go_simp
                            with_reducible rfl
                          rotate_left
                          · simp only [Act.put, List.setIfInBounds_toArray, List.set_cons_zero, List.set_cons_succ, i64_w, i32_w]
                            rfl
                          refine pure_ (i := 13) (N := some 27) (v := ?_) (a' := ?_) #[true, true, true, true, true, true, true, true, true, true, true, true, true, true, false, true, true, true, true, false, false, false, false, true, true, true, true, false, false, false, false, false, false] rfl rfl (any_of HT_.out (by kernel_rfl)) (fun _ _ _ h => h) (Or.inl ⟨by rfl, ?_⟩) ?_ ?_
                          rotate_left
                          · intro w'
                            go_simp
                            with_reducible rfl
                          rotate_left
                          · simp only [Act.put, List.setIfInBounds_toArray, List.set_cons_zero, List.set_cons_succ, i64_w, i32_w]
                            rfl
                          refine pure_ (i := 14) (N := some 28) (v := ?_) (a' := ?_) #[true, true, true, true, true, true, true, true, true, true, true, true, true, true, true, true, true, true, true, false, false, false, false, true, true, true, true, false, false, false, false, false, false] rfl rfl (any_of HT_.out (by kernel_rfl)) (fun _ _ _ h => h) (Or.inl ⟨by rfl, ?_⟩) ?_ ?_
                          rotate_left
                          · intro w'
                            go_simp
                            with_reducible rfl
                          rotate_left
                          · simp only [Act.put, List.setIfInBounds_toArray, List.set_cons_zero, List.set_cons_succ, i64_w, i32_w]
                            rfl
                          refine take_ (i := 19) (N := some 33) (v := ?_) (a' := ?_) #[true, true, true, true, true, true, true, true, true, true, true, true, true, true, true, true, true, true, true, true, false, false, false, true, true, true, true, false, false, false, false, false, false] rfl rfl (take_ofW HT_.out HW_.out (by kernel_rfl)) (fun _ _ _ h => h) (Or.inl ⟨by rfl, ?_⟩) hHeld ?_ ?_
                          rotate_left
                          · intro w' _
                            go_simp
                            with_reducible rfl
                          rotate_left
                          · simp only [Act.put, List.setIfInBounds_toArray, List.set_cons_zero, List.set_cons_succ, i64_w, i32_w]
                            rfl
                          refine pure_ (i := 20) (N := some 34) (v := ?_) (a' := ?_) #[true, true, true, true, true, true, true, true, true, true, true, true, true, true, true, true, true, true, true, true, true, false, false, true, true, true, true, false, false, false, false, false, false] rfl rfl (any_of HT_.out (by kernel_rfl)) (fun _ _ _ h => h) (Or.inl ⟨by rfl, ?_⟩) ?_ ?_
                          rotate_left
                          · intro w'
                            go_simp
                            with_reducible rfl
                          rotate_left
                          · simp only [Act.put, List.setIfInBounds_toArray, List.set_cons_zero, List.set_cons_succ, i64_w, i32_w]
                            rfl
                          refine pure_ (i := 21) (N := some 35) (v := ?_) (a' := ?_) #[true, true, true, true, true, true, true, true, true, true, true, true, true, true, true, true, true, true, true, true, true, true, false, true, true, true, true, false, false, false, false, false, false] rfl rfl (any_of HT_.out (by kernel_rfl)) (fun _ _ _ h => h) (Or.inl ⟨by rfl, ?_⟩) ?_ ?_
                          rotate_left
                          · intro w'
                            go_simp
                            with_reducible rfl
                          rotate_left
                          · simp only [Act.put, List.setIfInBounds_toArray, List.set_cons_zero, List.set_cons_succ, i64_w, i32_w]
                            rfl
                          refine pure_ (i := 22) (N := some 36) (v := ?_) (a' := ?_) #[true, true, true, true, true, true, true, true, true, true, true, true, true, true, true, true, true, true, true, true, true, true, true, true, true, true, true, false, false, false, false, false, false] rfl rfl (any_of HT_.out (by kernel_rfl)) (fun _ _ _ h => h) (Or.inl ⟨by rfl, ?_⟩) ?_ ?_
                          rotate_left
                          · intro w'
                            go_simp
                            with_reducible rfl
                          rotate_left
                          · simp only [Act.put, List.setIfInBounds_toArray, List.set_cons_zero, List.set_cons_succ, i64_w, i32_w]
                            rfl
                          refine take_ (i := 27) (N := some 41) (v := ?_) (a' := ?_) #[true, true, true, true, true, true, true, true, true, true, true, true, true, true, true, true, true, true, true, true, true, true, true, true, true, true, true, true, false, false, false, false, false] rfl rfl (take_ofW HT_.out HW_.out (by kernel_rfl)) (fun _ _ _ h => h) (Or.inl ⟨by rfl, ?_⟩) hHeld ?_ ?_
                          rotate_left
                          · intro w' _
                            go_simp
                            with_reducible rfl
                          rotate_left
                          · simp only [Act.put, List.setIfInBounds_toArray, List.set_cons_zero, List.set_cons_succ, i64_w, i32_w]
                            rfl
                          refine pure_ (i := 28) (N := some 42) (v := ?_) (a' := ?_) #[true, true, true, true, true, true, true, true, true, true, true, true, true, true, true, true, true, true, true, true, true, true, true, true, true, true, true, true, true, false, false, false, false] rfl rfl (any_of HT_.out (by kernel_rfl)) (fun _ _ _ h => h) (Or.inl ⟨by rfl, ?_⟩) ?_ ?_
                          rotate_left
                          · intro w'
                            go_simp
                            with_reducible rfl
                          rotate_left
                          · simp only [Act.put, List.setIfInBounds_toArray, List.set_cons_zero, List.set_cons_succ, i64_w, i32_w]
                            rfl
                          refine pure_ (i := 29) (N := some 43) (v := ?_) (a' := ?_) #[true, true, true, true, true, true, true, true, true, true, true, true, true, true, true, true, true, true, true, true, true, true, true, true, true, true, true, true, true, true, false, false, false] rfl rfl (any_of HT_.out (by kernel_rfl)) (fun _ _ _ h => h) (Or.inl ⟨by rfl, ?_⟩) ?_ ?_
                          rotate_left
                          · intro w'
                            go_simp
                            with_reducible rfl
                          rotate_left
                          · simp only [Act.put, List.setIfInBounds_toArray, List.set_cons_zero, List.set_cons_succ, i64_w, i32_w]
                            rfl
                          refine one_ (i := 30) (N := some 44) #[true, true, true, true, true, true, true, true, true, true, true, true, true, true, true, true, true, true, true, true, true, true, true, true, true, true, true, true, true, true, true, false, false] rfl rfl (one_of HT_.out (by kernel_rfl)) (by decide) (fun K hK => ?_)
                          refine value_ (w1 := ?_) (v := ?_) (by rfl) rfl ?_ ?_
                          rotate_left 2
                          · go_simp
                            constructor
                            · rfl
                            · rfl
                          refine hK.out _ _ trivial (fun hHeld => ?_)
                          clear hK K
                          refine norm_ (a' := ?_) ?_ ?_
                          rotate_left
                          · show Act.put _ (some 44) _ = _
                            simp only [Act.put, List.setIfInBounds_toArray, List.set_cons_zero, List.set_cons_succ, i64_w, i32_w]
                            rfl
                          refine one_ (i := 31) (N := some 45) #[true, true, true, true, true, true, true, true, true, true, true, true, true, true, true, true, true, true, true, true, true, true, true, true, true, true, true, true, true, true, true, true, false] rfl rfl (one_of HT_.out (by kernel_rfl)) (by decide) (fun K hK => ?_)
                          refine Kd.R_append_step (Kd.int .u32) (w0 := w) w.heap.size (by rfl) (.tmp 14) (.tmp 44) 44 34 (.int .u32 0) 4 rfl Try.underlying44 info34 rfl (by decide) (by omega) u3 x3_1 (Go.bits .or .u32 (Go.bits .or .u32 (Go.bits .or .u32 ((((bt a0 (ji3)) % 4294967296) * 16777216) % 4294967296) ((((bt a0 (ji7)) % 4294967296) * 65536) % 4294967296)) ((((bt a0 (ji11)) % 4294967296) * 256) % 4294967296)) ((bt a0 (ji15)) % 4294967296)) [.int .u32 (Go.bits .or .u32 (Go.bits .or .u32 (Go.bits .or .u32 ((((bt a0 (ji3)) % 4294967296) * 16777216) % 4294967296) ((((bt a0 (ji7)) % 4294967296) * 65536) % 4294967296)) ((((bt a0 (ji11)) % 4294967296) * 256) % 4294967296)) ((bt a0 (ji15)) % 4294967296))] (fun _ => True) (fun _ => False) rfl rfl ?aP (fun _ hk => hk.elim) ?aF ?aO ?aB ?aS ?aL ?_
                          (case aP => exact rfl)
                          (case aB => exact (by repeat (first | (with_reducible first | exact HB.out | apply below_alloc | apply pw_below_drewN | apply below_drew1) | exact HB.out)))
                          (case aF => exact (fun _ _ => trivial))
                          (case aO => exact (by (with_reducible repeat (first | apply Kd.R_alloc | apply Kd.R_drewN | apply Kd.R_drew)); exact HO_3.out))
                          (case aS => exact (below_size (by repeat (first | (with_reducible first | exact HB.out | apply below_alloc | apply pw_below_drewN | apply below_drew1) | exact HB.out))))
                          (case aL => have := LMc19.out; omega)
                          intro v118 w21 ho hb hg hat
                          rw [← Ny117.out] at ho
                          have n0_ := Aside0.mk (hb)
                          have n1_ := Aside0.mk (ho)
                          clear HB
                          clear HO_3
                          have HB := n0_
                          have HO119 := n1_
                          clear n0_ n1_
                          clear ho hb hg hat
                          refine hK.out _ _ trivial (fun hHeld => ?_)
                          clear hK K
                          refine norm_ (a' := ?_) ?_ ?_
                          rotate_left
                          · show Act.put _ (some 45) _ = _
                            simp only [Act.put, List.setIfInBounds_toArray, List.set_cons_zero, List.set_cons_succ, i64_w, i32_w]
                            rfl
                          refine pure_ (i := 32) (N := some 3) (v := ?_) (a' := ?_) #[true, true, true, true, true, true, true, true, true, true, true, true, true, true, true, true, true, true, true, true, true, true, true, true, true, true, true, true, true, true, true, true, true] rfl rfl (any_of HT_.out (by kernel_rfl)) (fun _ _ _ h => h) (Or.inl ⟨by rfl, ?_⟩) ?_ ?_
                          rotate_left
                          · intro w'
                            go_simp
                            with_reducible rfl
                          rotate_left
                          · simp only [Act.put, List.setIfInBounds_toArray, List.set_cons_zero, List.set_cons_succ, i64_w, i32_w]
                            rfl
                          refine done_ (done_of HT_.out (by kernel_rfl)) ?_
                          try go_wp2
                          go_roundg k1
                          case measure => have := HK1.out; omega
                          case rel => exact ⟨(y117), (wrap64 (x4_1 + 1)), (by first | rfl | (simp; done) | (simp [*]; done)), H', ⟨by have := HK1.out; omega⟩, ⟨by (with_reducible repeat (first | apply Kd.R_alloc | apply Kd.R_drewN | apply Kd.R_drew)); exact HO119.out⟩, ⟨by repeat (first | (with_reducible first | exact HB.out | apply below_alloc | apply pw_below_drewN | apply below_drew1) | exact HB.out)⟩⟩
                        · rw [if_neg c19] at H
                          exact absurd H (by simp)
                      · rw [if_neg c17] at H
                        exact absurd H (by simp)
                    · rw [if_neg c16] at H
                      exact absurd H (by simp)
                  · rw [if_neg c13] at H
                    exact absurd H (by simp)
                · rw [if_neg c12] at H
                  exact absurd H (by simp)
              · rw [if_neg c9] at H
                exact absurd H (by simp)
            · rw [if_neg c8] at H
              exact absurd H (by simp)
          · rw [if_neg c5] at H
            exact absurd H (by simp)
        · rw [if_neg c4] at H
          exact absurd H (by simp)
      · rw [if_neg c2] at H
        have c2b0 : decide (x4_1 < 16) = false := decide_eq_false c2
        clear c2
        have H' := Aside0.mk H
        clear H
        go_wp2
        go_loopg [3, 5] k1 (fun kq v3 v5 w' => ∃ (x3_2 : List Int) (x5_2 : Int), v5 = .int .i64 x5_2 ∧ Aside0 (bailiwickref03_spread.l1 kq x3_2 x5_2 = some r) ∧ Aside0 (kq ≤ k1) ∧ Aside0 (Kd.R (Kd.int .u32) 34 w' w.heap.size (fun _ => True) v3 x3_2) ∧ Aside0 (Below w.heap.size w w'))
        case atStart => exact ⟨(x3_1), (16), (by first | rfl | (simp; done) | (simp [*]; done)), H', ⟨Nat.le_refl _⟩, ⟨by (with_reducible repeat (first | apply Kd.R_alloc | apply Kd.R_drewN | apply Kd.R_drew)); exact HO_3.out⟩, ⟨by repeat (first | (with_reducible first | exact HB.out | apply below_alloc | apply pw_below_drewN | apply below_drew1) | exact HB.out)⟩⟩
        case round =>
          clear H'
          try clear c1
          try clear p1
          try clear q1
          try clear hx1
          try clear c2
          try clear c2b0
          try clear p2
          try clear c4
          try clear c4b0
          try clear c5
          try clear c5b0
          try clear p6
          try clear q6
          try clear hx6
          try clear c8
          try clear c8b0
          try clear c9
          try clear c9b0
          try clear p10
          try clear q10
          try clear hx10
          try clear c12
          try clear c12b0
          try clear c13
          try clear c13b0
          try clear p14
          try clear q14
          try clear hx14
          try clear c16
          try clear c16b0
          try clear c17
          try clear c17b0
          try clear p18
          try clear q18
          try clear hx18
          try clear c19
          try clear p10
          try clear p14
          try clear p18
          try clear p6
          try clear q10
          try clear q14
          try clear q18
          try clear q6
          obtain ⟨x3_2, x5_2, rfl, HA, HK2, HO_3, HB⟩ := hrel
          cases gk with
          | zero => exact absurd HA.out (by simp [bailiwickref03_spread.l1])
          | succ k2 =>
            have H := HA.out
            clear HA
            simp only [bailiwickref03_spread.l1] at H
            by_cases c22 : x5_2 < 64
            · rw [if_pos c22] at H
              have c22b0 : decide (x5_2 < 64) = true := decide_eq_true c22
              clear c22
              obtain ⟨ji23, hji23⟩ : ∃ j_ : Int, (wrap64 (x5_2 - 15)) = j_ := ⟨_, rfl⟩
              replace H : (if 0 ≤ (ji23) then (if (ji23) < (x3_2.length : Int) then (if 0 ≤ (wrap64 (x5_2 - 2)) then (if (wrap64 (x5_2 - 2)) < (x3_2.length : Int) then ((bailiwickref03_right.f (rd x3_2 (ji23)) 7).bind fun t122 => ((bailiwickref03_right.f (rd x3_2 (ji23)) 18).bind fun t123 => ((bailiwickref03_right.f (rd x3_2 (wrap64 (x5_2 - 2))) 17).bind fun t124 => ((bailiwickref03_right.f (rd x3_2 (wrap64 (x5_2 - 2))) 19).bind fun t125 => (if 0 ≤ (wrap64 (x5_2 - 7)) then (if (wrap64 (x5_2 - 7)) < (x3_2.length : Int) then (if 0 ≤ (wrap64 (x5_2 - 16)) then (if (wrap64 (x5_2 - 16)) < (x3_2.length : Int) then (if x3_2.length < 35184372088832 then (bailiwickref03_spread.l1 k2 (x3_2 ++ [((((((Go.bits .xor .u32 (Go.bits .xor .u32 t124 t125) ((rd x3_2 (wrap64 (x5_2 - 2))) / 1024)) + (rd x3_2 (wrap64 (x5_2 - 7)))) % 4294967296) + (Go.bits .xor .u32 (Go.bits .xor .u32 t122 t123) ((rd x3_2 (ji23)) / 8))) % 4294967296) + (rd x3_2 (wrap64 (x5_2 - 16)))) % 4294967296]) (wrap64 (x5_2 + 1))) else (none)) else (none)) else (none)) else (none)) else (none)))))) else (none)) else (none)) else (none)) else (none)) = some r := by first | (rw [hji23] at H; exact H) | (simp only [hji23] at H ⊢; exact H)
              have hji23w : (IntKind.i64.wrap (x5_2 - 15)) = ji23 := (i64_w _).trans hji23
              by_cases c24 : 0 ≤ (ji23)
              · rw [if_pos c24] at H
                have c24b0 : decide (0 ≤ (ji23)) = true := decide_eq_true c24
                clear c24
                by_cases c25 : (ji23) < (x3_2.length : Int)
                · rw [if_pos c25] at H
                  have c25b0 : decide ((ji23) < (x3_2.length : Int)) = true := decide_eq_true c25
                  clear c25
                  obtain ⟨ji26, hji26⟩ : ∃ j_ : Int, (wrap64 (x5_2 - 2)) = j_ := ⟨_, rfl⟩
                  replace H : (if 0 ≤ (ji26) then (if (ji26) < (x3_2.length : Int) then ((bailiwickref03_right.f (rd x3_2 (ji23)) 7).bind fun t122 => ((bailiwickref03_right.f (rd x3_2 (ji23)) 18).bind fun t123 => ((bailiwickref03_right.f (rd x3_2 (ji26)) 17).bind fun t124 => ((bailiwickref03_right.f (rd x3_2 (ji26)) 19).bind fun t125 => (if 0 ≤ (wrap64 (x5_2 - 7)) then (if (wrap64 (x5_2 - 7)) < (x3_2.length : Int) then (if 0 ≤ (wrap64 (x5_2 - 16)) then (if (wrap64 (x5_2 - 16)) < (x3_2.length : Int) then (if x3_2.length < 35184372088832 then (bailiwickref03_spread.l1 k2 (x3_2 ++ [((((((Go.bits .xor .u32 (Go.bits .xor .u32 t124 t125) ((rd x3_2 (ji26)) / 1024)) + (rd x3_2 (wrap64 (x5_2 - 7)))) % 4294967296) + (Go.bits .xor .u32 (Go.bits .xor .u32 t122 t123) ((rd x3_2 (ji23)) / 8))) % 4294967296) + (rd x3_2 (wrap64 (x5_2 - 16)))) % 4294967296]) (wrap64 (x5_2 + 1))) else (none)) else (none)) else (none)) else (none)) else (none)))))) else (none)) else (none)) = some r := by first | (rw [hji26] at H; exact H) | (simp only [hji26] at H ⊢; exact H)
                  have hji26w : (IntKind.i64.wrap (x5_2 - 2)) = ji26 := (i64_w _).trans hji26
                  by_cases c27 : 0 ≤ (ji26)
                  · rw [if_pos c27] at H
                    have c27b0 : decide (0 ≤ (ji26)) = true := decide_eq_true c27
                    clear c27
                    by_cases c28 : (ji26) < (x3_2.length : Int)
                    · rw [if_pos c28] at H
                      have c28b0 : decide ((ji26) < (x3_2.length : Int)) = true := decide_eq_true c28
                      clear c28
                      replace H := Option.bind_eq_some_iff.mp H
                      obtain ⟨t122, A290, H⟩ := H
                      replace H : ((bailiwickref03_right.f (rd x3_2 (ji23)) 18).bind fun t123 => ((bailiwickref03_right.f (rd x3_2 (ji26)) 17).bind fun t124 => ((bailiwickref03_right.f (rd x3_2 (ji26)) 19).bind fun t125 => (if 0 ≤ (wrap64 (x5_2 - 7)) then (if (wrap64 (x5_2 - 7)) < (x3_2.length : Int) then (if 0 ≤ (wrap64 (x5_2 - 16)) then (if (wrap64 (x5_2 - 16)) < (x3_2.length : Int) then (if x3_2.length < 35184372088832 then (bailiwickref03_spread.l1 k2 (x3_2 ++ [((((((Go.bits .xor .u32 (Go.bits .xor .u32 t124 t125) ((rd x3_2 (ji26)) / 1024)) + (rd x3_2 (wrap64 (x5_2 - 7)))) % 4294967296) + (Go.bits .xor .u32 (Go.bits .xor .u32 t122 t123) ((rd x3_2 (ji23)) / 8))) % 4294967296) + (rd x3_2 (wrap64 (x5_2 - 16)))) % 4294967296]) (wrap64 (x5_2 + 1))) else (none)) else (none)) else (none)) else (none)) else (none))))) = some r := H
                      have A29 := Aside0.mk A290
                      clear A290
                      replace H := Option.bind_eq_some_iff.mp H
                      obtain ⟨t123, A300, H⟩ := H
                      replace H : ((bailiwickref03_right.f (rd x3_2 (ji26)) 17).bind fun t124 => ((bailiwickref03_right.f (rd x3_2 (ji26)) 19).bind fun t125 => (if 0 ≤ (wrap64 (x5_2 - 7)) then (if (wrap64 (x5_2 - 7)) < (x3_2.length : Int) then (if 0 ≤ (wrap64 (x5_2 - 16)) then (if (wrap64 (x5_2 - 16)) < (x3_2.length : Int) then (if x3_2.length < 35184372088832 then (bailiwickref03_spread.l1 k2 (x3_2 ++ [((((((Go.bits .xor .u32 (Go.bits .xor .u32 t124 t125) ((rd x3_2 (ji26)) / 1024)) + (rd x3_2 (wrap64 (x5_2 - 7)))) % 4294967296) + (Go.bits .xor .u32 (Go.bits .xor .u32 t122 t123) ((rd x3_2 (ji23)) / 8))) % 4294967296) + (rd x3_2 (wrap64 (x5_2 - 16)))) % 4294967296]) (wrap64 (x5_2 + 1))) else (none)) else (none)) else (none)) else (none)) else (none)))) = some r := H
                      have A30 := Aside0.mk A300
                      clear A300
                      replace H := Option.bind_eq_some_iff.mp H
                      obtain ⟨t124, A310, H⟩ := H
                      replace H : ((bailiwickref03_right.f (rd x3_2 (ji26)) 19).bind fun t125 => (if 0 ≤ (wrap64 (x5_2 - 7)) then (if (wrap64 (x5_2 - 7)) < (x3_2.length : Int) then (if 0 ≤ (wrap64 (x5_2 - 16)) then (if (wrap64 (x5_2 - 16)) < (x3_2.length : Int) then (if x3_2.length < 35184372088832 then (bailiwickref03_spread.l1 k2 (x3_2 ++ [((((((Go.bits .xor .u32 (Go.bits .xor .u32 t124 t125) ((rd x3_2 (ji26)) / 1024)) + (rd x3_2 (wrap64 (x5_2 - 7)))) % 4294967296) + (Go.bits .xor .u32 (Go.bits .xor .u32 t122 t123) ((rd x3_2 (ji23)) / 8))) % 4294967296) + (rd x3_2 (wrap64 (x5_2 - 16)))) % 4294967296]) (wrap64 (x5_2 + 1))) else (none)) else (none)) else (none)) else (none)) else (none))) = some r := H
                      have A31 := Aside0.mk A310
                      clear A310
                      replace H := Option.bind_eq_some_iff.mp H
                      obtain ⟨t125, A320, H⟩ := H
                      replace H : (if 0 ≤ (wrap64 (x5_2 - 7)) then (if (wrap64 (x5_2 - 7)) < (x3_2.length : Int) then (if 0 ≤ (wrap64 (x5_2 - 16)) then (if (wrap64 (x5_2 - 16)) < (x3_2.length : Int) then (if x3_2.length < 35184372088832 then (bailiwickref03_spread.l1 k2 (x3_2 ++ [((((((Go.bits .xor .u32 (Go.bits .xor .u32 t124 t125) ((rd x3_2 (ji26)) / 1024)) + (rd x3_2 (wrap64 (x5_2 - 7)))) % 4294967296) + (Go.bits .xor .u32 (Go.bits .xor .u32 t122 t123) ((rd x3_2 (ji23)) / 8))) % 4294967296) + (rd x3_2 (wrap64 (x5_2 - 16)))) % 4294967296]) (wrap64 (x5_2 + 1))) else (none)) else (none)) else (none)) else (none)) else (none)) = some r := H
                      have A32 := Aside0.mk A320
                      clear A320
                      obtain ⟨ji33, hji33⟩ : ∃ j_ : Int, (wrap64 (x5_2 - 7)) = j_ := ⟨_, rfl⟩
                      replace H : (if 0 ≤ (ji33) then (if (ji33) < (x3_2.length : Int) then (if 0 ≤ (wrap64 (x5_2 - 16)) then (if (wrap64 (x5_2 - 16)) < (x3_2.length : Int) then (if x3_2.length < 35184372088832 then (bailiwickref03_spread.l1 k2 (x3_2 ++ [((((((Go.bits .xor .u32 (Go.bits .xor .u32 t124 t125) ((rd x3_2 (ji26)) / 1024)) + (rd x3_2 (ji33))) % 4294967296) + (Go.bits .xor .u32 (Go.bits .xor .u32 t122 t123) ((rd x3_2 (ji23)) / 8))) % 4294967296) + (rd x3_2 (wrap64 (x5_2 - 16)))) % 4294967296]) (wrap64 (x5_2 + 1))) else (none)) else (none)) else (none)) else (none)) else (none)) = some r := by first | (rw [hji33] at H; exact H) | (simp only [hji33] at H ⊢; exact H)
                      (try rw [hji33] at A29)
                      (try rw [hji33] at A30)
                      (try rw [hji33] at A31)
                      (try rw [hji33] at A32)
                      have hji33w : (IntKind.i64.wrap (x5_2 - 7)) = ji33 := (i64_w _).trans hji33
                      by_cases c34 : 0 ≤ (ji33)
                      · rw [if_pos c34] at H
                        have c34b0 : decide (0 ≤ (ji33)) = true := decide_eq_true c34
                        clear c34
                        by_cases c35 : (ji33) < (x3_2.length : Int)
                        · rw [if_pos c35] at H
                          have c35b0 : decide ((ji33) < (x3_2.length : Int)) = true := decide_eq_true c35
                          clear c35
                          obtain ⟨ji36, hji36⟩ : ∃ j_ : Int, (wrap64 (x5_2 - 16)) = j_ := ⟨_, rfl⟩
                          replace H : (if 0 ≤ (ji36) then (if (ji36) < (x3_2.length : Int) then (if x3_2.length < 35184372088832 then (bailiwickref03_spread.l1 k2 (x3_2 ++ [((((((Go.bits .xor .u32 (Go.bits .xor .u32 t124 t125) ((rd x3_2 (ji26)) / 1024)) + (rd x3_2 (ji33))) % 4294967296) + (Go.bits .xor .u32 (Go.bits .xor .u32 t122 t123) ((rd x3_2 (ji23)) / 8))) % 4294967296) + (rd x3_2 (ji36))) % 4294967296]) (wrap64 (x5_2 + 1))) else (none)) else (none)) else (none)) = some r := by first | (rw [hji36] at H; exact H) | (simp only [hji36] at H ⊢; exact H)
                          (try rw [hji36] at A29)
                          (try rw [hji36] at A30)
                          (try rw [hji36] at A31)
                          (try rw [hji36] at A32)
                          have hji36w : (IntKind.i64.wrap (x5_2 - 16)) = ji36 := (i64_w _).trans hji36
                          by_cases c37 : 0 ≤ (ji36)
                          · rw [if_pos c37] at H
                            have c37b0 : decide (0 ≤ (ji36)) = true := decide_eq_true c37
                            clear c37
                            by_cases c38 : (ji36) < (x3_2.length : Int)
                            · rw [if_pos c38] at H
                              have c38b0 : decide ((ji36) < (x3_2.length : Int)) = true := decide_eq_true c38
                              clear c38
                              by_cases c39 : x3_2.length < 35184372088832
                              · rw [if_pos c39] at H
                                have LMc39 := Aside0.mk c39
                                clear c39
                                obtain ⟨y128, hy128⟩ : ∃ y_ : List Int, y_ = (x3_2 ++ [((((((Go.bits .xor .u32 (Go.bits .xor .u32 t124 t125) ((rd x3_2 (ji26)) / 1024)) + (rd x3_2 (ji33))) % 4294967296) + (Go.bits .xor .u32 (Go.bits .xor .u32 t122 t123) ((rd x3_2 (ji23)) / 8))) % 4294967296) + (rd x3_2 (ji36))) % 4294967296]) := ⟨_, rfl⟩
                                replace H : (bailiwickref03_spread.l1 k2 y128 (wrap64 (x5_2 + 1))) = some r := by first | (rw [hy128]; with_reducible exact H) | (have H2_ := (Option.bind_some _ _).symm.trans H; rw [hy128]; with_reducible exact H2_) | (have H2_ := (Option.bind_some _ _).symm.trans H; with_reducible exact H2_) | with_reducible exact H | (rw [hy128]; exact H) | exact H
                                have Ny128 := Aside0.mk hy128
                                clear hy128
                                have H' := Aside0.mk H
                                clear H
                                obtain ⟨Ao40, co40, eo40⟩ := Kd.R_slice HO_3.out
                                subst eo40
                                have p120 : 0 ≤ ((ji23) : Int) := of_decide_eq_true (by first | (with_reducible assumption) | assumption)
                                have q120 : (ji23) < (x3_2.length : Int) := of_decide_eq_true (by first | (with_reducible assumption) | assumption)
                                obtain ⟨ad120, e120, hx120_0⟩ := Kd.at_int (Kd.R_reads' HO_3.out).2.2 (ji23) p120 q120
                                cases e120
                                replace p120 := eq_true p120
                                replace q120 := eq_true q120
                                have p121 : 0 ≤ ((ji26) : Int) := of_decide_eq_true (by first | (with_reducible assumption) | assumption)
                                have q121 : (ji26) < (x3_2.length : Int) := of_decide_eq_true (by first | (with_reducible assumption) | assumption)
                                obtain ⟨ad121, e121, hx121_0⟩ := Kd.at_int (Kd.R_reads' HO_3.out).2.2 (ji26) p121 q121
                                obtain rfl : ad120 = ad121 := (by injection e121)
                                replace p121 := eq_true p121
                                replace q121 := eq_true q121
                                try go_wp2_with (first | ((with_reducible refine gate_callee (f := 30) rfl ?_); refine goesL_ (some 61) rfl rfl Try.func30 (by kernel_rfl) rfl #[.int .u32 (rd x3_2 (ji23)), .int .i64 7] rfl (by (try simp only [List.map_toArray, List.map_cons, List.map_nil]); first | done | (simp only [hji23]; rfl) | rfl | (simp only [List.length_drop, List.length_take]; rfl)) ?_; (with_reducible refine (bailiwickref03_right.calls (rd x3_2 (ji23)) 7 t122 _ A29.out).mono ?_); rintro e w' ⟨rfl, ⟨nd, rfl⟩⟩; refine ⟨_, rfl, ?_⟩) | ((with_reducible refine gate_callee (f := 30) rfl ?_); refine goesL_ (some 63) rfl rfl Try.func30 (by kernel_rfl) rfl #[.int .u32 (rd x3_2 (ji23)), .int .i64 18] rfl (by (try simp only [List.map_toArray, List.map_cons, List.map_nil]); first | done | (simp only [hji23]; rfl) | rfl | (simp only [List.length_drop, List.length_take]; rfl)) ?_; (with_reducible refine (bailiwickref03_right.calls (rd x3_2 (ji23)) 18 t123 _ A30.out).mono ?_); rintro e w' ⟨rfl, ⟨nd, rfl⟩⟩; refine ⟨_, rfl, ?_⟩) | ((with_reducible refine gate_callee (f := 30) rfl ?_); refine goesL_ (some 69) rfl rfl Try.func30 (by kernel_rfl) rfl #[.int .u32 (rd x3_2 (ji26)), .int .i64 17] rfl (by (try simp only [List.map_toArray, List.map_cons, List.map_nil]); first | done | (simp only [hji26]; rfl) | rfl | (simp only [List.length_drop, List.length_take]; rfl)) ?_; (with_reducible refine (bailiwickref03_right.calls (rd x3_2 (ji26)) 17 t124 _ A31.out).mono ?_); rintro e w' ⟨rfl, ⟨nd, rfl⟩⟩; refine ⟨_, rfl, ?_⟩) | ((with_reducible refine gate_callee (f := 30) rfl ?_); refine goesL_ (some 71) rfl rfl Try.func30 (by kernel_rfl) rfl #[.int .u32 (rd x3_2 (ji26)), .int .i64 19] rfl (by (try simp only [List.map_toArray, List.map_cons, List.map_nil]); first | done | (simp only [hji26]; rfl) | rfl | (simp only [List.length_drop, List.length_take]; rfl)) ?_; (with_reducible refine (bailiwickref03_right.calls (rd x3_2 (ji26)) 19 t125 _ A32.out).mono ?_); rintro e w' ⟨rfl, ⟨nd, rfl⟩⟩; refine ⟨_, rfl, ?_⟩))
                                (try (rw [drewN_self wr]; generalize hq_ : World.drewN wr _ = wr; have n0_ : Aside0 (Kd.R (Kd.int .u32) 34 wr w.heap.size (fun _ => True) (.slice (some ad120) x3_2.length co40) x3_2) := ⟨by rw [← hq_]; exact (by (with_reducible repeat (first | apply Kd.R_alloc | apply Kd.R_drewN | apply Kd.R_drew)); exact HO_3.out)⟩; have n1_ : Aside0 (Below w.heap.size w wr) := ⟨by rw [← hq_]; exact (by repeat (first | (with_reducible first | exact HB.out | apply below_alloc | apply pw_below_drewN | apply below_drew1) | exact HB.out))⟩; clear HO_3 HB hq_; have HO_3 := n0_; have HB := n1_; clear n0_ n1_))
                                have n0_ := Aside0.mk (Kd.R_drew HO_3.out)
                                have n1_ := Aside0.mk (below_drew1 HB.out)
                                clear HO_3
                                clear HB
                                have HO_3 := n0_
                                have HB := n1_
                                clear n0_ n1_
                                have p126 : 0 ≤ ((ji33) : Int) := of_decide_eq_true (by first | (with_reducible assumption) | assumption)
                                have q126 : (ji33) < (x3_2.length : Int) := of_decide_eq_true (by first | (with_reducible assumption) | assumption)
                                obtain ⟨ad126, e126, hx126_0⟩ := Kd.at_int (Kd.R_reads' HO_3.out).2.2 (ji33) p126 q126
                                obtain rfl : ad120 = ad126 := (by injection e126)
                                replace p126 := eq_true p126
                                replace q126 := eq_true q126
                                have p127 : 0 ≤ ((ji36) : Int) := of_decide_eq_true (by first | (with_reducible assumption) | assumption)
                                have q127 : (ji36) < (x3_2.length : Int) := of_decide_eq_true (by first | (with_reducible assumption) | assumption)
                                obtain ⟨ad127, e127, hx127_0⟩ := Kd.at_int (Kd.R_reads' HO_3.out).2.2 (ji36) p127 q127
                                obtain rfl : ad120 = ad127 := (by injection e127)
                                replace p127 := eq_true p127
                                replace q127 := eq_true q127
                                refine start_ (n := 19) (S := fun w' => w'.cell? (ad120.add ((ji33)).toNat) = some (.int .u32 (rd x3_2 (ji33))) ∧ w'.cell? (ad120.add ((ji36)).toNat) = some (.int .u32 (rd x3_2 (ji36)))) (ds := [16, 17]) #[false, false, false, false, false, false, false, false, false, false, false, false, false, false, false, false, false, false, false] (by kernel_rfl) rfl rfl ⟨hx126_0, hx127_0⟩ (fun hHeld => ?_); refine with_tabW bailiwickref03_spread.tab13 bailiwickref03_spread.bits13 (fun HT_ HW_ => ?_)
                                generalize wr.drew = w41 at HO_3 HB hx126_0 hx127_0 hHeld ⊢
                                refine pure_ (i := 0) (N := some 76) (v := ?_) (a' := ?_) #[true, false, false, false, false, false, false, false, false, false, false, false, false, false, false, false, false, false, false] rfl rfl (any_of HT_.out (by kernel_rfl)) (fun _ _ _ h => h) (Or.inl ⟨by rfl, ?_⟩) ?_ ?_
                                rotate_left
                                · intro w'
                                  go_simp
                                  with_reducible rfl
                                rotate_left
                                · simp only [Act.put, List.setIfInBounds_toArray, List.set_cons_zero, List.set_cons_succ, i64_w, i32_w]
                                  rfl
                                refine pure_ (i := 1) (N := some 77) (v := ?_) (a' := ?_) #[true, true, false, false, false, false, false, false, false, false, false, false, false, false, false, false, false, false, false] rfl rfl (any_of HT_.out (by kernel_rfl)) (fun _ _ _ h => h) (Or.inl ⟨by rfl, ?_⟩) ?_ ?_
                                rotate_left
                                · intro w'
                                  go_simp
                                  with_reducible rfl
                                rotate_left
                                · simp only [Act.put, List.setIfInBounds_toArray, List.set_cons_zero, List.set_cons_succ, i64_w, i32_w]
                                  rfl
                                refine pure_ (i := 2) (N := some 78) (v := ?_) (a' := ?_) #[true, true, true, false, false, false, false, false, false, false, false, false, false, false, false, false, false, false, false] rfl rfl (any_of HT_.out (by kernel_rfl)) (fun _ _ _ h => h) (Or.inl ⟨by rfl, ?_⟩) ?_ ?_
                                rotate_left
                                · intro w'
                                  go_simp
                                  with_reducible rfl
                                rotate_left
                                · simp only [Act.put, List.setIfInBounds_toArray, List.set_cons_zero, List.set_cons_succ, i64_w, i32_w]
                                  rfl
                                refine pure_ (i := 3) (N := some 79) (v := ?_) (a' := ?_) #[true, true, true, true, false, false, false, false, false, false, false, false, false, false, false, false, false, false, false] rfl rfl (any_of HT_.out (by kernel_rfl)) (fun _ _ _ h => h) (Or.inl ⟨by rfl, ?_⟩) ?_ ?_
                                rotate_left
                                · intro w'
                                  go_simp
                                  with_reducible rfl
                                rotate_left
                                · simp only [Act.put, List.setIfInBounds_toArray, List.set_cons_zero, List.set_cons_succ, i64_w, i32_w]
                                  rfl
                                refine pure_ (i := 4) (N := some 80) (v := ?_) (a' := ?_) #[true, true, true, true, true, false, false, false, false, false, false, false, false, false, false, false, false, false, false] rfl rfl (any_of HT_.out (by kernel_rfl)) (fun _ _ _ h => h) (Or.inl ⟨by rfl, ?_⟩) ?_ ?_
                                rotate_left
                                · intro w'
                                  go_simp
                                  with_reducible rfl
                                rotate_left
                                · simp only [Act.put, List.setIfInBounds_toArray, List.set_cons_zero, List.set_cons_succ, i64_w, i32_w]
                                  rfl
                                refine pure_ (i := 5) (N := some 81) (v := ?_) (a' := ?_) #[true, true, true, true, true, true, false, false, false, false, false, false, false, false, false, false, false, false, false] rfl rfl (any_of HT_.out (by kernel_rfl)) (fun _ _ _ h => h) (Or.inl ⟨by rfl, ?_⟩) ?_ ?_
                                rotate_left
                                · intro w'
                                  go_simp
                                  with_reducible rfl
                                rotate_left
                                · simp only [Act.put, List.setIfInBounds_toArray, List.set_cons_zero, List.set_cons_succ, i64_w, i32_w]
                                  rfl
                                refine pure_ (i := 8) (N := some 84) (v := ?_) (a' := ?_) #[true, true, true, true, true, true, false, false, true, false, false, false, false, false, false, false, false, false, false] rfl rfl (any_of HT_.out (by kernel_rfl)) (fun _ _ _ h => h) (Or.inl ⟨by rfl, ?_⟩) ?_ ?_
                                rotate_left
                                · intro w'
                                  go_simp
                                  with_reducible rfl
                                rotate_left
                                · simp only [Act.put, List.setIfInBounds_toArray, List.set_cons_zero, List.set_cons_succ, i64_w, i32_w]
                                  rfl
                                refine pure_ (i := 10) (N := some 86) (v := ?_) (a' := ?_) #[true, true, true, true, true, true, false, false, true, false, true, false, false, false, false, false, false, false, false] rfl rfl (any_of HT_.out (by kernel_rfl)) (fun _ _ _ h => h) (Or.inl ⟨by rfl, ?_⟩) ?_ ?_
                                rotate_left
                                · intro w'
                                  go_simp
                                  with_reducible rfl
                                rotate_left
                                · simp only [Act.put, List.setIfInBounds_toArray, List.set_cons_zero, List.set_cons_succ, i64_w, i32_w]
                                  rfl
                                refine pure_ (i := 11) (N := some 87) (v := ?_) (a' := ?_) #[true, true, true, true, true, true, false, false, true, false, true, true, false, false, false, false, false, false, false] rfl rfl (any_of HT_.out (by kernel_rfl)) (fun _ _ _ h => h) (Or.inl ⟨by rfl, ?_⟩) ?_ ?_
                                rotate_left
                                · intro w'
                                  go_simp
                                  with_reducible rfl
                                rotate_left
                                · simp only [Act.put, List.setIfInBounds_toArray, List.set_cons_zero, List.set_cons_succ, i64_w, i32_w]
                                  rfl
                                refine pure_ (i := 12) (N := some 88) (v := ?_) (a' := ?_) #[true, true, true, true, true, true, false, false, true, false, true, true, true, false, false, false, false, false, false] rfl rfl (any_of HT_.out (by kernel_rfl)) (fun _ _ _ h => h) (Or.inl ⟨by rfl, ?_⟩) ?_ ?_
                                rotate_left
                                · intro w'
                                  go_simp
                                  with_reducible rfl
                                rotate_left
                                · simp only [Act.put, List.setIfInBounds_toArray, List.set_cons_zero, List.set_cons_succ, i64_w, i32_w]
                                  rfl
                                refine pure_ (i := 13) (N := some 89) (v := ?_) (a' := ?_) #[true, true, true, true, true, true, false, false, true, false, true, true, true, true, false, false, false, false, false] rfl rfl (any_of HT_.out (by kernel_rfl)) (fun _ _ _ h => h) (Or.inl ⟨by rfl, ?_⟩) ?_ ?_
                                rotate_left
                                · intro w'
                                  go_simp
                                  with_reducible rfl
                                rotate_left
                                · simp only [Act.put, List.setIfInBounds_toArray, List.set_cons_zero, List.set_cons_succ, i64_w, i32_w]
                                  rfl
                                refine take_ (i := 6) (N := some 82) (v := ?_) (a' := ?_) #[true, true, true, true, true, true, true, false, true, false, true, true, true, true, false, false, false, false, false] rfl rfl (take_ofW HT_.out HW_.out (by kernel_rfl)) (fun _ _ _ h => h) (Or.inl ⟨by rfl, ?_⟩) hHeld ?_ ?_
                                rotate_left
                                · rintro w' ⟨s0, s1⟩
                                  go_simp
                                  with_reducible rfl
                                rotate_left
                                · simp only [Act.put, List.setIfInBounds_toArray, List.set_cons_zero, List.set_cons_succ, i64_w, i32_w]
                                  rfl
                                refine pure_ (i := 7) (N := some 83) (v := ?_) (a' := ?_) #[true, true, true, true, true, true, true, true, true, false, true, true, true, true, false, false, false, false, false] rfl rfl (any_of HT_.out (by kernel_rfl)) (fun _ _ _ h => h) (Or.inl ⟨by rfl, ?_⟩) ?_ ?_
                                rotate_left
                                · intro w'
                                  go_simp
                                  with_reducible rfl
                                rotate_left
                                · simp only [Act.put, List.setIfInBounds_toArray, List.set_cons_zero, List.set_cons_succ, i64_w, i32_w]
                                  rfl
                                refine pure_ (i := 9) (N := some 85) (v := ?_) (a' := ?_) #[true, true, true, true, true, true, true, true, true, true, true, true, true, true, false, false, false, false, false] rfl rfl (any_of HT_.out (by kernel_rfl)) (fun _ _ _ h => h) (Or.inl ⟨by rfl, ?_⟩) ?_ ?_
                                rotate_left
                                · intro w'
                                  go_simp
                                  with_reducible rfl
                                rotate_left
                                · simp only [Act.put, List.setIfInBounds_toArray, List.set_cons_zero, List.set_cons_succ, i64_w, i32_w]
                                  rfl
                                refine take_ (i := 14) (N := some 90) (v := ?_) (a' := ?_) #[true, true, true, true, true, true, true, true, true, true, true, true, true, true, true, false, false, false, false] rfl rfl (take_ofW HT_.out HW_.out (by kernel_rfl)) (fun _ _ _ h => h) (Or.inl ⟨by rfl, ?_⟩) hHeld ?_ ?_
                                rotate_left
                                · rintro w' ⟨s0, s1⟩
                                  go_simp
                                  with_reducible rfl
                                rotate_left
                                · simp only [Act.put, List.setIfInBounds_toArray, List.set_cons_zero, List.set_cons_succ, i64_w, i32_w]
                                  rfl
                                refine pure_ (i := 15) (N := some 91) (v := ?_) (a' := ?_) #[true, true, true, true, true, true, true, true, true, true, true, true, true, true, true, true, false, false, false] rfl rfl (any_of HT_.out (by kernel_rfl)) (fun _ _ _ h => h) (Or.inl ⟨by rfl, ?_⟩) ?_ ?_
                                rotate_left
                                · intro w'
                                  go_simp
                                  with_reducible rfl
                                rotate_left
                                · simp only [Act.put, List.setIfInBounds_toArray, List.set_cons_zero, List.set_cons_succ, i64_w, i32_w]
                                  rfl
                                refine last_ (i := 16) (N := some 92) #[true, true, true, true, true, true, true, true, true, true, true, true, true, true, true, true, true, false, false] rfl rfl (one_of HT_.out (by kernel_rfl)) (by decide) (fun K hK => ?_)
                                refine value_ (w1 := ?_) (v := ?_) (by rfl) rfl ?_ ?_
                                rotate_left 2
                                · go_simp
                                  constructor
                                  · rfl
                                  · rfl
                                refine hK.out _ _ ?_
                                clear hK K
                                refine norm_ (a' := ?_) ?_ ?_
                                rotate_left
                                · show Act.put _ (some 92) _ = _
                                  simp only [Act.put, List.setIfInBounds_toArray, List.set_cons_zero, List.set_cons_succ, i64_w, i32_w]
                                  rfl
                                refine last_ (i := 17) (N := some 93) #[true, true, true, true, true, true, true, true, true, true, true, true, true, true, true, true, true, true, false] rfl rfl (one_of HT_.out (by kernel_rfl)) (by decide) (fun K hK => ?_)
                                refine Kd.R_append_step (Kd.int .u32) (w0 := w) w.heap.size (by rfl) (.tmp 76) (.tmp 92) 44 34 (.int .u32 0) 4 rfl Try.underlying44 info34 rfl (by decide) (by omega) (.slice (some ad120) x3_2.length co40) x3_2 (((((((Go.bits .xor .u32 (Go.bits .xor .u32 t124 t125) ((rd x3_2 (ji26)) / 1024)) + (rd x3_2 (ji33))) % 4294967296) + (Go.bits .xor .u32 (Go.bits .xor .u32 t122 t123) ((rd x3_2 (ji23)) / 8))) % 4294967296) + (rd x3_2 (ji36))) % 4294967296) [.int .u32 (((((((Go.bits .xor .u32 (Go.bits .xor .u32 t124 t125) ((rd x3_2 (ji26)) / 1024)) + (rd x3_2 (ji33))) % 4294967296) + (Go.bits .xor .u32 (Go.bits .xor .u32 t122 t123) ((rd x3_2 (ji23)) / 8))) % 4294967296) + (rd x3_2 (ji36))) % 4294967296)] (fun _ => True) (fun _ => False) rfl rfl ?aP (fun _ hk => hk.elim) ?aF ?aO ?aB ?aS ?aL ?_
                                (case aP => exact rfl)
                                (case aB => exact (by repeat (first | (with_reducible first | exact HB.out | apply below_alloc | apply pw_below_drewN | apply below_drew1) | exact HB.out)))
                                (case aF => exact (fun _ _ => trivial))
                                (case aO => exact (by (with_reducible repeat (first | apply Kd.R_alloc | apply Kd.R_drewN | apply Kd.R_drew)); exact HO_3.out))
                                (case aS => exact (below_size (by repeat (first | (with_reducible first | exact HB.out | apply below_alloc | apply pw_below_drewN | apply below_drew1) | exact HB.out))))
                                (case aL => have := LMc39.out; omega)
                                intro v129 w42 ho hb hg hat
                                rw [← Ny128.out] at ho
                                have n0_ := Aside0.mk (hb)
                                have n1_ := Aside0.mk (ho)
                                clear HB
                                clear HO_3
                                have HB := n0_
                                have HO130 := n1_
                                clear n0_ n1_
                                clear ho hb hg hat
                                refine hK.out _ _ ?_
                                clear hK K
                                refine norm_ (a' := ?_) ?_ ?_
                                rotate_left
                                · show Act.put _ (some 93) _ = _
                                  simp only [Act.put, List.setIfInBounds_toArray, List.set_cons_zero, List.set_cons_succ, i64_w, i32_w]
                                  rfl
                                refine pure_ (i := 18) (N := some 3) (v := ?_) (a' := ?_) #[true, true, true, true, true, true, true, true, true, true, true, true, true, true, true, true, true, true, true] rfl rfl (any_of HT_.out (by kernel_rfl)) (fun _ _ _ h => h) (Or.inl ⟨by rfl, ?_⟩) ?_ ?_
                                rotate_left
                                · intro w'
                                  go_simp
                                  with_reducible rfl
                                rotate_left
                                · simp only [Act.put, List.setIfInBounds_toArray, List.set_cons_zero, List.set_cons_succ, i64_w, i32_w]
                                  rfl
                                refine done_ (done_of HT_.out (by kernel_rfl)) ?_
                                try go_wp2
                                go_roundg k2
                                case measure => have := HK1.out; have := HK2.out; omega
                                case rel => exact ⟨(y128), (wrap64 (x5_2 + 1)), (by first | rfl | (simp; done) | (simp [*]; done)), H', ⟨by have := HK1.out; have := HK2.out; omega⟩, ⟨by (with_reducible repeat (first | apply Kd.R_alloc | apply Kd.R_drewN | apply Kd.R_drew)); exact HO130.out⟩, ⟨by repeat (first | (with_reducible first | exact HB.out | apply below_alloc | apply pw_below_drewN | apply below_drew1) | exact HB.out)⟩⟩
                              · rw [if_neg c39] at H
                                exact absurd H (by simp)
                            · rw [if_neg c38] at H
                              exact absurd H (by simp)
                          · rw [if_neg c37] at H
                            exact absurd H (by simp)
                        · rw [if_neg c35] at H
                          exact absurd H (by simp)
                      · rw [if_neg c34] at H
                        exact absurd H (by simp)
                    · rw [if_neg c28] at H
                      exact absurd H (by simp)
                  · rw [if_neg c27] at H
                    exact absurd H (by simp)
                · rw [if_neg c25] at H
                  exact absurd H (by simp)
              · rw [if_neg c24] at H
                exact absurd H (by simp)
            · rw [if_neg c22] at H
              have c22b0 : decide (x5_2 < 64) = false := decide_eq_false c22
              clear c22
              obtain rfl := Option.some.inj H
              go_wp2
              go_ret
              exact ⟨_, by first | rfl | (simp [errW_none, errW_some] <;> rfl) | (simp [*, errW_none, errW_some] <;> rfl), by (with_reducible repeat (first | apply Kd.R_alloc | apply Kd.R_drewN | apply Kd.R_drew)); exact HO_3.out, by repeat (first | (with_reducible first | exact HB.out | apply below_alloc | apply pw_below_drewN | apply below_drew1) | exact HB.out)⟩

-- NOT PRINTED: function 13 (bailiwickref03_Sum)

end Go.Proofs.Ytakbdknmfaoppaa.P
