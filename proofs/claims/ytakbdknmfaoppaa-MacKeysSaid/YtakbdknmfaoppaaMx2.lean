-- Written by a program of this session (gp.py), which drives the print with some lines turned. Not trusted: Lean checks it.
import Derived.Test.YtakbdknmfaoppaaMx0
import Derived.Test.YtakbdknmfaoppaaMx1
namespace Go.Proofs.Ytakbdknmfaoppaa.M
open Go.RowKit Go.Proofs.YtakbdknmfaoppaaW.PrintWords Go.Proofs.YtakbdknmfaoppaaW.PrintLast Go.Proofs.YtakbdknmfaoppaaW.PrintMore
attribute [local go_sem] max2_int min2_int max_two min_two max_three min_three max_four min_four P.emod_u8 P.emod_u16 P.emod_u32
set_option linter.unusedVariables false
set_option linter.unusedSimpArgs false

/-! ### bailiwickref04_Tag: function 22 -/
def bailiwickref04_Tag.f (k : Nat) (a0 : ByteArray) (a1 : ByteArray) : Option (ByteArray) := (bailiwickref04_Mac.f k a0 a1).bind fun t128 => (if 0 ≤ 16 then (if 16 ≤ (t128.size : Int) then (some (t128.extract 0 16)) else (none)) else (none))
theorem bailiwickref04_Tag.mono : ∀ a0 a1 k, LeO (bailiwickref04_Tag.f k a0 a1) (bailiwickref04_Tag.f (k + 1) a0 a1) := by
  intro a0 a1 k
  unfold bailiwickref04_Tag.f
  repeat' first
      | (with_reducible exact bailiwickref04_Mac.mono _ _ _)
      | (with_reducible exact LeO.refl _)
      | (with_reducible exact LeO.none _)
      | (with_reducible refine LeO.ite ?_ ?_)
      | (with_reducible refine LeO.bind ?_ (fun _ => ?_))
      | exact bailiwickref04_Mac.mono _ _ _
      | exact LeO.none _
      | refine LeO.ite ?_ ?_
      | refine LeO.bind ?_ (fun _ => ?_)
set_option maxHeartbeats 8000000 in
set_option maxRecDepth 100000 in
theorem bailiwickref04_Tag.calls (k : Nat) (a0 : ByteArray) (a1 : ByteArray) (r : ByteArray) (w : World) (h : bailiwickref04_Tag.f k a0 a1 = some r) :
    Calls Try.prog 22 #[.string a0, .string a1] w fun e w' => e = .returned (.string r) ∧ Below w.heap.size w w' := by
  have HB := Aside0.mk (Below.refl w.heap.size w)
  have H : ((bailiwickref04_Mac.f k a0 a1).bind fun t128 => (if 0 ≤ 16 then (if 16 ≤ (t128.size : Int) then (some (t128.extract 0 16)) else (none)) else (none))) = some r := h
  clear h
  replace H := Option.bind_eq_some_iff.mp H
  obtain ⟨t128, A30, H⟩ := H
  replace H : (if 0 ≤ 16 then (if 16 ≤ (t128.size : Int) then (some (t128.extract 0 16)) else (none)) else (none)) = some r := H
  have A3 := Aside0.mk A30
  clear A30
  by_cases c4 : 0 ≤ 16
  · rw [if_pos c4] at H
    have c4b0 := eq_true c4
    have c4b1 : decide (0 ≤ 16) = true := decide_eq_true c4
    clear c4
    by_cases c5 : 16 ≤ (t128.size : Int)
    · rw [if_pos c5] at H
      have c5b0 := eq_true c5
      have c5b1 : decide (16 ≤ (t128.size : Int)) = true := decide_eq_true c5
      clear c5
      obtain rfl := Option.some.inj H
      go_enter Try.func22, Try.ntmps22
      (try dsimp only [List.append])
      go_wp2_with (first | ((with_reducible refine gate_callee (f := 20) rfl ?_); refine goesL_ (some 7) rfl rfl Try.func20 (by kernel_rfl) rfl #[.string a0, .string a1] rfl (by (try simp only [List.map_toArray, List.map_cons, List.map_nil]); first | done | rfl | (simp only [List.length_drop, List.length_take]; rfl)) ?_; (with_reducible refine (bailiwickref04_Mac.calls k a0 a1 t128 _ A3.out).mono ?_); rintro e w6 ⟨rfl, hb⟩; refine ⟨_, rfl, ?_⟩; have n0_ := Aside0.mk (below_step (by repeat (first | (with_reducible first | exact HB.out | apply below_alloc | apply pw_below_drewN | apply below_drew1) | exact HB.out)) hb); clear HB; have HB := n0_; clear n0_; (try clear hb); (try clear hb2); (try clear hk); (try clear hi)))
      go_ret
      exact ⟨by first | rfl | (simp [errW_none, errW_some] <;> rfl) | (simp [*, errW_none, errW_some] <;> rfl), by repeat (first | (with_reducible first | exact HB.out | apply below_alloc | apply pw_below_drewN | apply below_drew1) | exact HB.out)⟩
    · rw [if_neg c5] at H
      exact absurd H (by simp)
  · rw [if_neg c4] at H
    exact absurd H (by simp)

/-! ### bailiwicklaw04_MacTags: function 9 -/
def bailiwicklaw04_MacTags.f (k : Nat) (a0 : ByteArray) (a1 : ByteArray) (a2 : ByteArray) : Option (Bool) := (bailiwicklaw04_examples.f k).bind fun t129 => (if t129 = true then (if 0 ≤ (mn (a0.size : Int) 300) then (if (mn (a0.size : Int) 300) ≤ (a0.size : Int) then (if 0 ≤ (mn (a1.size : Int) 300) then (if (mn (a1.size : Int) 300) ≤ (a1.size : Int) then ((Go.Proofs.Ytakbdknmfaoppaa.R.Mac.f (a0.extract 0 ((mn (a0.size : Int) 300) : Int).toNat) (a1.extract 0 ((mn (a1.size : Int) 300) : Int).toNat)).bind fun t130 => ((bailiwickref04_Mac.f k (a0.extract 0 ((mn (a0.size : Int) 300) : Int).toNat) (a1.extract 0 ((mn (a1.size : Int) 300) : Int).toNat)).bind fun t131 => (if t130.toList = t131.toList then ((mac_Tag.f (a0.extract 0 ((mn (a0.size : Int) 300) : Int).toNat) (a1.extract 0 ((mn (a1.size : Int) 300) : Int).toNat)).bind fun t132 => ((bailiwickref04_Tag.f k (a0.extract 0 ((mn (a0.size : Int) 300) : Int).toNat) (a1.extract 0 ((mn (a1.size : Int) 300) : Int).toNat)).bind fun t133 => (if t132.toList = t133.toList then ((Go.Proofs.Ytakbdknmfaoppaa.P.mac_Same.f k (a1.extract 0 ((mn (a1.size : Int) 300) : Int).toNat) a2).bind fun t134 => (some (t134 == ((a1.extract 0 ((mn (a1.size : Int) 300) : Int).toNat).toList == a2.toList)))) else (some false)))) else (some false)))) else (none)) else (none)) else (none)) else (none)) else (some false))
theorem bailiwicklaw04_MacTags.mono : ∀ a0 a1 a2 k, LeO (bailiwicklaw04_MacTags.f k a0 a1 a2) (bailiwicklaw04_MacTags.f (k + 1) a0 a1 a2) := by
  intro a0 a1 a2 k
  unfold bailiwicklaw04_MacTags.f
  repeat' first
      | (with_reducible exact Go.Proofs.Ytakbdknmfaoppaa.P.mac_Same.mono _ _ _)
      | (with_reducible exact bailiwicklaw04_examples.mono _)
      | (with_reducible exact bailiwickref04_Mac.mono _ _ _)
      | (with_reducible exact bailiwickref04_Tag.mono _ _ _)
      | (with_reducible exact LeO.refl _)
      | (with_reducible exact LeO.none _)
      | (with_reducible refine LeO.ite ?_ ?_)
      | (with_reducible refine LeO.bind ?_ (fun _ => ?_))
      | exact Go.Proofs.Ytakbdknmfaoppaa.P.mac_Same.mono _ _ _
      | exact bailiwicklaw04_examples.mono _
      | exact bailiwickref04_Mac.mono _ _ _
      | exact bailiwickref04_Tag.mono _ _ _
      | exact LeO.none _
      | refine LeO.ite ?_ ?_
      | refine LeO.bind ?_ (fun _ => ?_)
set_option maxHeartbeats 8000000 in
set_option maxRecDepth 100000 in
theorem bailiwicklaw04_MacTags.calls (k : Nat) (a0 : ByteArray) (a1 : ByteArray) (a2 : ByteArray) (r : Bool) (w : World) (h : bailiwicklaw04_MacTags.f k a0 a1 a2 = some r) :
    Calls Try.prog 9 #[.string a0, .string a1, .string a2] w fun e w' => e = .returned (.bool r) ∧ Below w.heap.size w w' := by
  have HB := Aside0.mk (Below.refl w.heap.size w)
  have H : ((bailiwicklaw04_examples.f k).bind fun t129 => (if t129 = true then (if 0 ≤ (mn (a0.size : Int) 300) then (if (mn (a0.size : Int) 300) ≤ (a0.size : Int) then (if 0 ≤ (mn (a1.size : Int) 300) then (if (mn (a1.size : Int) 300) ≤ (a1.size : Int) then ((Go.Proofs.Ytakbdknmfaoppaa.R.Mac.f (a0.extract 0 ((mn (a0.size : Int) 300) : Int).toNat) (a1.extract 0 ((mn (a1.size : Int) 300) : Int).toNat)).bind fun t130 => ((bailiwickref04_Mac.f k (a0.extract 0 ((mn (a0.size : Int) 300) : Int).toNat) (a1.extract 0 ((mn (a1.size : Int) 300) : Int).toNat)).bind fun t131 => (if t130.toList = t131.toList then ((mac_Tag.f (a0.extract 0 ((mn (a0.size : Int) 300) : Int).toNat) (a1.extract 0 ((mn (a1.size : Int) 300) : Int).toNat)).bind fun t132 => ((bailiwickref04_Tag.f k (a0.extract 0 ((mn (a0.size : Int) 300) : Int).toNat) (a1.extract 0 ((mn (a1.size : Int) 300) : Int).toNat)).bind fun t133 => (if t132.toList = t133.toList then ((Go.Proofs.Ytakbdknmfaoppaa.P.mac_Same.f k (a1.extract 0 ((mn (a1.size : Int) 300) : Int).toNat) a2).bind fun t134 => (some (t134 == ((a1.extract 0 ((mn (a1.size : Int) 300) : Int).toNat).toList == a2.toList)))) else (some false)))) else (some false)))) else (none)) else (none)) else (none)) else (none)) else (some false))) = some r := h
  clear h
  replace H := Option.bind_eq_some_iff.mp H
  obtain ⟨t129, A40, H⟩ := H
  replace H : (if t129 = true then (if 0 ≤ (mn (a0.size : Int) 300) then (if (mn (a0.size : Int) 300) ≤ (a0.size : Int) then (if 0 ≤ (mn (a1.size : Int) 300) then (if (mn (a1.size : Int) 300) ≤ (a1.size : Int) then ((Go.Proofs.Ytakbdknmfaoppaa.R.Mac.f (a0.extract 0 ((mn (a0.size : Int) 300) : Int).toNat) (a1.extract 0 ((mn (a1.size : Int) 300) : Int).toNat)).bind fun t130 => ((bailiwickref04_Mac.f k (a0.extract 0 ((mn (a0.size : Int) 300) : Int).toNat) (a1.extract 0 ((mn (a1.size : Int) 300) : Int).toNat)).bind fun t131 => (if t130.toList = t131.toList then ((mac_Tag.f (a0.extract 0 ((mn (a0.size : Int) 300) : Int).toNat) (a1.extract 0 ((mn (a1.size : Int) 300) : Int).toNat)).bind fun t132 => ((bailiwickref04_Tag.f k (a0.extract 0 ((mn (a0.size : Int) 300) : Int).toNat) (a1.extract 0 ((mn (a1.size : Int) 300) : Int).toNat)).bind fun t133 => (if t132.toList = t133.toList then ((Go.Proofs.Ytakbdknmfaoppaa.P.mac_Same.f k (a1.extract 0 ((mn (a1.size : Int) 300) : Int).toNat) a2).bind fun t134 => (some (t134 == ((a1.extract 0 ((mn (a1.size : Int) 300) : Int).toNat).toList == a2.toList)))) else (some false)))) else (some false)))) else (none)) else (none)) else (none)) else (none)) else (some false)) = some r := H
  have A4 := Aside0.mk A40
  clear A40
  by_cases c5 : t129 = true
  · subst c5
    have H1 : (if 0 ≤ (mn (a0.size : Int) 300) then (if (mn (a0.size : Int) 300) ≤ (a0.size : Int) then (if 0 ≤ (mn (a1.size : Int) 300) then (if (mn (a1.size : Int) 300) ≤ (a1.size : Int) then ((Go.Proofs.Ytakbdknmfaoppaa.R.Mac.f (a0.extract 0 ((mn (a0.size : Int) 300) : Int).toNat) (a1.extract 0 ((mn (a1.size : Int) 300) : Int).toNat)).bind fun t130 => ((bailiwickref04_Mac.f k (a0.extract 0 ((mn (a0.size : Int) 300) : Int).toNat) (a1.extract 0 ((mn (a1.size : Int) 300) : Int).toNat)).bind fun t131 => (if t130.toList = t131.toList then ((mac_Tag.f (a0.extract 0 ((mn (a0.size : Int) 300) : Int).toNat) (a1.extract 0 ((mn (a1.size : Int) 300) : Int).toNat)).bind fun t132 => ((bailiwickref04_Tag.f k (a0.extract 0 ((mn (a0.size : Int) 300) : Int).toNat) (a1.extract 0 ((mn (a1.size : Int) 300) : Int).toNat)).bind fun t133 => (if t132.toList = t133.toList then ((Go.Proofs.Ytakbdknmfaoppaa.P.mac_Same.f k (a1.extract 0 ((mn (a1.size : Int) 300) : Int).toNat) a2).bind fun t134 => (some (t134 == ((a1.extract 0 ((mn (a1.size : Int) 300) : Int).toNat).toList == a2.toList)))) else (some false)))) else (some false)))) else (none)) else (none)) else (none)) else (none)) = some r := by first | (rw [if_pos rfl] at H; exact H) | (rw [if_pos trivial] at H; exact H)
    clear H
    have H := H1
    clear H1
    obtain ⟨ji6, hji6⟩ : ∃ j_ : Int, (mn (a0.size : Int) 300) = j_ := ⟨_, rfl⟩
    replace H : (if 0 ≤ (ji6) then (if (ji6) ≤ (a0.size : Int) then (if 0 ≤ (mn (a1.size : Int) 300) then (if (mn (a1.size : Int) 300) ≤ (a1.size : Int) then ((Go.Proofs.Ytakbdknmfaoppaa.R.Mac.f (a0.extract 0 ((ji6) : Int).toNat) (a1.extract 0 ((mn (a1.size : Int) 300) : Int).toNat)).bind fun t130 => ((bailiwickref04_Mac.f k (a0.extract 0 ((ji6) : Int).toNat) (a1.extract 0 ((mn (a1.size : Int) 300) : Int).toNat)).bind fun t131 => (if t130.toList = t131.toList then ((mac_Tag.f (a0.extract 0 ((ji6) : Int).toNat) (a1.extract 0 ((mn (a1.size : Int) 300) : Int).toNat)).bind fun t132 => ((bailiwickref04_Tag.f k (a0.extract 0 ((ji6) : Int).toNat) (a1.extract 0 ((mn (a1.size : Int) 300) : Int).toNat)).bind fun t133 => (if t132.toList = t133.toList then ((Go.Proofs.Ytakbdknmfaoppaa.P.mac_Same.f k (a1.extract 0 ((mn (a1.size : Int) 300) : Int).toNat) a2).bind fun t134 => (some (t134 == ((a1.extract 0 ((mn (a1.size : Int) 300) : Int).toNat).toList == a2.toList)))) else (some false)))) else (some false)))) else (none)) else (none)) else (none)) else (none)) = some r := by first | (rw [hji6] at H; exact H) | (simp only [hji6] at H ⊢; exact H)
    (try rw [hji6] at A4)
    (try (have hji6h : ji6 ≤ 300 := by (rw [← hji6]; unfold mn; (repeat' split) <;> omega)))
    (try (have hji6g : ji6 ≤ 64 := by omega))
    (try (have hji6l : 0 ≤ ji6 := by (rw [← hji6]; unfold mn; (repeat' split) <;> omega)))
    (try (have hji6m : 0 ≤ ji6 := by omega))
    have hji6_ : (if 300 < (a0.size : Int) then 300 else (a0.size : Int)) = ji6 := hji6
    obtain ⟨bx6_a0, hbx6_a0⟩ : ∃ b_ : ByteArray, (a0.extract 0 (ji6 : Int).toNat) = b_ := ⟨_, rfl⟩
    have hbx6_a0z : bx6_a0.size ≤ 300 := by rw [← hbx6_a0, ByteArray.size_extract]; omega
    simp only [hbx6_a0] at H
    by_cases c7 : 0 ≤ (ji6)
    · rw [if_pos c7] at H
      have c7b0 := eq_true c7
      have c7b1 : decide (0 ≤ (ji6)) = true := decide_eq_true c7
      clear c7
      by_cases c8 : (ji6) ≤ (a0.size : Int)
      · rw [if_pos c8] at H
        have c8b0 := eq_true c8
        have c8b1 : decide ((ji6) ≤ (a0.size : Int)) = true := decide_eq_true c8
        clear c8
        obtain ⟨ji9, hji9⟩ : ∃ j_ : Int, (mn (a1.size : Int) 300) = j_ := ⟨_, rfl⟩
        replace H : (if 0 ≤ (ji9) then (if (ji9) ≤ (a1.size : Int) then ((Go.Proofs.Ytakbdknmfaoppaa.R.Mac.f bx6_a0 (a1.extract 0 ((ji9) : Int).toNat)).bind fun t130 => ((bailiwickref04_Mac.f k bx6_a0 (a1.extract 0 ((ji9) : Int).toNat)).bind fun t131 => (if t130.toList = t131.toList then ((mac_Tag.f bx6_a0 (a1.extract 0 ((ji9) : Int).toNat)).bind fun t132 => ((bailiwickref04_Tag.f k bx6_a0 (a1.extract 0 ((ji9) : Int).toNat)).bind fun t133 => (if t132.toList = t133.toList then ((Go.Proofs.Ytakbdknmfaoppaa.P.mac_Same.f k (a1.extract 0 ((ji9) : Int).toNat) a2).bind fun t134 => (some (t134 == ((a1.extract 0 ((ji9) : Int).toNat).toList == a2.toList)))) else (some false)))) else (some false)))) else (none)) else (none)) = some r := by first | (rw [hji9] at H; exact H) | (simp only [hji9] at H ⊢; exact H)
        (try rw [hji9] at A4)
        (try (have hji9h : ji9 ≤ 300 := by (rw [← hji9]; unfold mn; (repeat' split) <;> omega)))
        (try (have hji9g : ji9 ≤ 64 := by omega))
        (try (have hji9l : 0 ≤ ji9 := by (rw [← hji9]; unfold mn; (repeat' split) <;> omega)))
        (try (have hji9m : 0 ≤ ji9 := by omega))
        have hji9_ : (if 300 < (a1.size : Int) then 300 else (a1.size : Int)) = ji9 := hji9
        obtain ⟨bx9_a1, hbx9_a1⟩ : ∃ b_ : ByteArray, (a1.extract 0 (ji9 : Int).toNat) = b_ := ⟨_, rfl⟩
        have hbx9_a1z : bx9_a1.size ≤ 300 := by rw [← hbx9_a1, ByteArray.size_extract]; omega
        simp only [hbx9_a1] at H
        by_cases c10 : 0 ≤ (ji9)
        · rw [if_pos c10] at H
          have c10b0 := eq_true c10
          have c10b1 : decide (0 ≤ (ji9)) = true := decide_eq_true c10
          clear c10
          by_cases c11 : (ji9) ≤ (a1.size : Int)
          · rw [if_pos c11] at H
            have c11b0 := eq_true c11
            have c11b1 : decide ((ji9) ≤ (a1.size : Int)) = true := decide_eq_true c11
            clear c11
            replace H := Option.bind_eq_some_iff.mp H
            obtain ⟨t130, A120, H⟩ := H
            replace H : ((bailiwickref04_Mac.f k bx6_a0 bx9_a1).bind fun t131 => (if t130.toList = t131.toList then ((mac_Tag.f bx6_a0 bx9_a1).bind fun t132 => ((bailiwickref04_Tag.f k bx6_a0 bx9_a1).bind fun t133 => (if t132.toList = t133.toList then ((Go.Proofs.Ytakbdknmfaoppaa.P.mac_Same.f k bx9_a1 a2).bind fun t134 => (some (t134 == (bx9_a1.toList == a2.toList)))) else (some false)))) else (some false))) = some r := H
            have A12 := Aside0.mk A120
            clear A120
            replace H := Option.bind_eq_some_iff.mp H
            obtain ⟨t131, A130, H⟩ := H
            replace H : (if t130.toList = t131.toList then ((mac_Tag.f bx6_a0 bx9_a1).bind fun t132 => ((bailiwickref04_Tag.f k bx6_a0 bx9_a1).bind fun t133 => (if t132.toList = t133.toList then ((Go.Proofs.Ytakbdknmfaoppaa.P.mac_Same.f k bx9_a1 a2).bind fun t134 => (some (t134 == (bx9_a1.toList == a2.toList)))) else (some false)))) else (some false)) = some r := H
            have A13 := Aside0.mk A130
            clear A130
            by_cases c14 : t130.toList = t131.toList
            · rw [if_pos c14] at H
              have c14b0 : (t130.toList == t131.toList) = true := beq_iff_eq.mpr c14
              have c14b1 : (t130.toList != t131.toList) = false := bne_eq_false_iff_eq.mpr c14
              clear c14
              replace H := Option.bind_eq_some_iff.mp H
              obtain ⟨t132, A150, H⟩ := H
              replace H : ((bailiwickref04_Tag.f k bx6_a0 bx9_a1).bind fun t133 => (if t132.toList = t133.toList then ((Go.Proofs.Ytakbdknmfaoppaa.P.mac_Same.f k bx9_a1 a2).bind fun t134 => (some (t134 == (bx9_a1.toList == a2.toList)))) else (some false))) = some r := H
              have A15 := Aside0.mk A150
              clear A150
              replace H := Option.bind_eq_some_iff.mp H
              obtain ⟨t133, A160, H⟩ := H
              replace H : (if t132.toList = t133.toList then ((Go.Proofs.Ytakbdknmfaoppaa.P.mac_Same.f k bx9_a1 a2).bind fun t134 => (some (t134 == (bx9_a1.toList == a2.toList)))) else (some false)) = some r := H
              have A16 := Aside0.mk A160
              clear A160
              by_cases c17 : t132.toList = t133.toList
              · rw [if_pos c17] at H
                have c17b0 : (t132.toList == t133.toList) = true := beq_iff_eq.mpr c17
                have c17b1 : (t132.toList != t133.toList) = false := bne_eq_false_iff_eq.mpr c17
                clear c17
                replace H := Option.bind_eq_some_iff.mp H
                obtain ⟨t134, A180, H⟩ := H
                replace H : (some (t134 == (bx9_a1.toList == a2.toList))) = some r := H
                have A18 := Aside0.mk A180
                clear A180
                obtain rfl := Option.some.inj H
                go_enter Try.func9, Try.ntmps9
                (try dsimp only [List.append])
                go_wp2_with (first | ((with_reducible refine gate_callee (f := 17) rfl ?_); refine goesL_ (some 8) rfl rfl Try.func17 (by kernel_rfl) rfl #[] rfl (by (try simp only [List.map_toArray, List.map_cons, List.map_nil]); first | done | rfl | (simp only [List.length_drop, List.length_take]; rfl)) ?_; (with_reducible refine (bailiwicklaw04_examples.calls k  true _ A4.out).mono ?_); rintro e w19 ⟨rfl, hb⟩; refine ⟨_, rfl, ?_⟩; have n0_ := Aside0.mk (below_step (by repeat (first | (with_reducible first | exact HB.out | apply below_alloc | apply pw_below_drewN | apply below_drew1) | exact HB.out)) hb); clear HB; have HB := n0_; clear n0_; (try clear hb); (try clear hb2); (try clear hk); (try clear hi)) | (go_at_call 19; (with_reducible refine (Go.Proofs.Ytakbdknmfaoppaa.R.Mac.calls bx6_a0 bx9_a1 t130 _ A12.out).mono ?_); rintro e w20 ⟨rfl, hb⟩; have n0_ := Aside0.mk (below_step (by repeat (first | (with_reducible first | exact HB.out | apply below_alloc | apply pw_below_drewN | apply below_drew1) | exact HB.out)) hb); clear HB; have HB := n0_; clear n0_; (try clear hb); (try clear hb2); (try clear hk); (try clear hi)) | (go_at_call 20; (with_reducible refine (bailiwickref04_Mac.calls k bx6_a0 bx9_a1 t131 _ A13.out).mono ?_); rintro e w21 ⟨rfl, hb⟩; have n0_ := Aside0.mk (below_step (by repeat (first | (with_reducible first | exact HB.out | apply below_alloc | apply pw_below_drewN | apply below_drew1) | exact HB.out)) hb); clear HB; have HB := n0_; clear n0_; (try clear hb); (try clear hb2); (try clear hk); (try clear hi)) | (go_at_call 21; (with_reducible refine (mac_Tag.calls bx6_a0 bx9_a1 t132 _ A15.out).mono ?_); rintro e w22 ⟨rfl, hb⟩; have n0_ := Aside0.mk (below_step (by repeat (first | (with_reducible first | exact HB.out | apply below_alloc | apply pw_below_drewN | apply below_drew1) | exact HB.out)) hb); clear HB; have HB := n0_; clear n0_; (try clear hb); (try clear hb2); (try clear hk); (try clear hi)) | (go_at_call 22; (with_reducible refine (bailiwickref04_Tag.calls k bx6_a0 bx9_a1 t133 _ A16.out).mono ?_); rintro e w23 ⟨rfl, hb⟩; have n0_ := Aside0.mk (below_step (by repeat (first | (with_reducible first | exact HB.out | apply below_alloc | apply pw_below_drewN | apply below_drew1) | exact HB.out)) hb); clear HB; have HB := n0_; clear n0_; (try clear hb); (try clear hb2); (try clear hk); (try clear hi)) | (go_at_call 18; (with_reducible refine (Go.Proofs.Ytakbdknmfaoppaa.P.mac_Same.calls k bx9_a1 a2 t134 _ A18.out).mono ?_); rintro e w24 ⟨rfl, hb⟩; have n0_ := Aside0.mk (below_step (by repeat (first | (with_reducible first | exact HB.out | apply below_alloc | apply pw_below_drewN | apply below_drew1) | exact HB.out)) hb); clear HB; have HB := n0_; clear n0_; (try clear hb); (try clear hb2); (try clear hk); (try clear hi)))
                go_ret
                exact ⟨by first | rfl | (simp [errW_none, errW_some] <;> rfl) | (simp only [← hji6, ← hji9]; first | rfl | (simp [errW_none, errW_some] <;> rfl)) | (simp [*, errW_none, errW_some] <;> rfl), by repeat (first | (with_reducible first | exact HB.out | apply below_alloc | apply pw_below_drewN | apply below_drew1) | exact HB.out)⟩
              · rw [if_neg c17] at H
                have c17b0 : (t132.toList == t133.toList) = false := beq_eq_false_iff_ne.mpr c17
                have c17b1 : (t132.toList != t133.toList) = true := bne_iff_ne.mpr c17
                obtain rfl := Option.some.inj H
                go_enter Try.func9, Try.ntmps9
                (try dsimp only [List.append])
                go_wp2_with (first | ((with_reducible refine gate_callee (f := 17) rfl ?_); refine goesL_ (some 8) rfl rfl Try.func17 (by kernel_rfl) rfl #[] rfl (by (try simp only [List.map_toArray, List.map_cons, List.map_nil]); first | done | rfl | (simp only [List.length_drop, List.length_take]; rfl)) ?_; (with_reducible refine (bailiwicklaw04_examples.calls k  true _ A4.out).mono ?_); rintro e w25 ⟨rfl, hb⟩; refine ⟨_, rfl, ?_⟩; have n0_ := Aside0.mk (below_step (by repeat (first | (with_reducible first | exact HB.out | apply below_alloc | apply pw_below_drewN | apply below_drew1) | exact HB.out)) hb); clear HB; have HB := n0_; clear n0_; (try clear hb); (try clear hb2); (try clear hk); (try clear hi)) | (go_at_call 19; (with_reducible refine (Go.Proofs.Ytakbdknmfaoppaa.R.Mac.calls bx6_a0 bx9_a1 t130 _ A12.out).mono ?_); rintro e w26 ⟨rfl, hb⟩; have n0_ := Aside0.mk (below_step (by repeat (first | (with_reducible first | exact HB.out | apply below_alloc | apply pw_below_drewN | apply below_drew1) | exact HB.out)) hb); clear HB; have HB := n0_; clear n0_; (try clear hb); (try clear hb2); (try clear hk); (try clear hi)) | (go_at_call 20; (with_reducible refine (bailiwickref04_Mac.calls k bx6_a0 bx9_a1 t131 _ A13.out).mono ?_); rintro e w27 ⟨rfl, hb⟩; have n0_ := Aside0.mk (below_step (by repeat (first | (with_reducible first | exact HB.out | apply below_alloc | apply pw_below_drewN | apply below_drew1) | exact HB.out)) hb); clear HB; have HB := n0_; clear n0_; (try clear hb); (try clear hb2); (try clear hk); (try clear hi)) | (go_at_call 21; (with_reducible refine (mac_Tag.calls bx6_a0 bx9_a1 t132 _ A15.out).mono ?_); rintro e w28 ⟨rfl, hb⟩; have n0_ := Aside0.mk (below_step (by repeat (first | (with_reducible first | exact HB.out | apply below_alloc | apply pw_below_drewN | apply below_drew1) | exact HB.out)) hb); clear HB; have HB := n0_; clear n0_; (try clear hb); (try clear hb2); (try clear hk); (try clear hi)) | (go_at_call 22; (with_reducible refine (bailiwickref04_Tag.calls k bx6_a0 bx9_a1 t133 _ A16.out).mono ?_); rintro e w29 ⟨rfl, hb⟩; have n0_ := Aside0.mk (below_step (by repeat (first | (with_reducible first | exact HB.out | apply below_alloc | apply pw_below_drewN | apply below_drew1) | exact HB.out)) hb); clear HB; have HB := n0_; clear n0_; (try clear hb); (try clear hb2); (try clear hk); (try clear hi)))
                go_ret
                exact ⟨by first | rfl | (simp [errW_none, errW_some] <;> rfl) | (simp only [← hji6, ← hji9]; first | rfl | (simp [errW_none, errW_some] <;> rfl)) | (simp [*, errW_none, errW_some] <;> rfl), by repeat (first | (with_reducible first | exact HB.out | apply below_alloc | apply pw_below_drewN | apply below_drew1) | exact HB.out)⟩
            · rw [if_neg c14] at H
              have c14b0 : (t130.toList == t131.toList) = false := beq_eq_false_iff_ne.mpr c14
              have c14b1 : (t130.toList != t131.toList) = true := bne_iff_ne.mpr c14
              obtain rfl := Option.some.inj H
              go_enter Try.func9, Try.ntmps9
              (try dsimp only [List.append])
              go_wp2_with (first | ((with_reducible refine gate_callee (f := 17) rfl ?_); refine goesL_ (some 8) rfl rfl Try.func17 (by kernel_rfl) rfl #[] rfl (by (try simp only [List.map_toArray, List.map_cons, List.map_nil]); first | done | rfl | (simp only [List.length_drop, List.length_take]; rfl)) ?_; (with_reducible refine (bailiwicklaw04_examples.calls k  true _ A4.out).mono ?_); rintro e w30 ⟨rfl, hb⟩; refine ⟨_, rfl, ?_⟩; have n0_ := Aside0.mk (below_step (by repeat (first | (with_reducible first | exact HB.out | apply below_alloc | apply pw_below_drewN | apply below_drew1) | exact HB.out)) hb); clear HB; have HB := n0_; clear n0_; (try clear hb); (try clear hb2); (try clear hk); (try clear hi)) | (go_at_call 19; (with_reducible refine (Go.Proofs.Ytakbdknmfaoppaa.R.Mac.calls bx6_a0 bx9_a1 t130 _ A12.out).mono ?_); rintro e w31 ⟨rfl, hb⟩; have n0_ := Aside0.mk (below_step (by repeat (first | (with_reducible first | exact HB.out | apply below_alloc | apply pw_below_drewN | apply below_drew1) | exact HB.out)) hb); clear HB; have HB := n0_; clear n0_; (try clear hb); (try clear hb2); (try clear hk); (try clear hi)) | (go_at_call 20; (with_reducible refine (bailiwickref04_Mac.calls k bx6_a0 bx9_a1 t131 _ A13.out).mono ?_); rintro e w32 ⟨rfl, hb⟩; have n0_ := Aside0.mk (below_step (by repeat (first | (with_reducible first | exact HB.out | apply below_alloc | apply pw_below_drewN | apply below_drew1) | exact HB.out)) hb); clear HB; have HB := n0_; clear n0_; (try clear hb); (try clear hb2); (try clear hk); (try clear hi)))
              go_ret
              exact ⟨by first | rfl | (simp [errW_none, errW_some] <;> rfl) | (simp only [← hji6, ← hji9]; first | rfl | (simp [errW_none, errW_some] <;> rfl)) | (simp [*, errW_none, errW_some] <;> rfl), by repeat (first | (with_reducible first | exact HB.out | apply below_alloc | apply pw_below_drewN | apply below_drew1) | exact HB.out)⟩
          · rw [if_neg c11] at H
            exact absurd H (by simp)
        · rw [if_neg c10] at H
          exact absurd H (by simp)
      · rw [if_neg c8] at H
        exact absurd H (by simp)
    · rw [if_neg c7] at H
      exact absurd H (by simp)
  · replace c5 := Bool.eq_false_iff.mpr c5
    subst c5
    have H1 : (some false) = some r := by rw [if_neg (show ¬ (false = true) by decide)] at H; exact H
    clear H
    have H := H1
    clear H1
    obtain rfl := Option.some.inj H
    go_enter Try.func9, Try.ntmps9
    (try dsimp only [List.append])
    go_wp2_with (first | ((with_reducible refine gate_callee (f := 17) rfl ?_); refine goesL_ (some 8) rfl rfl Try.func17 (by kernel_rfl) rfl #[] rfl (by (try simp only [List.map_toArray, List.map_cons, List.map_nil]); first | done | rfl | (simp only [List.length_drop, List.length_take]; rfl)) ?_; (with_reducible refine (bailiwicklaw04_examples.calls k  false _ A4.out).mono ?_); rintro e w33 ⟨rfl, hb⟩; refine ⟨_, rfl, ?_⟩; have n0_ := Aside0.mk (below_step (by repeat (first | (with_reducible first | exact HB.out | apply below_alloc | apply pw_below_drewN | apply below_drew1) | exact HB.out)) hb); clear HB; have HB := n0_; clear n0_; (try clear hb); (try clear hb2); (try clear hk); (try clear hi)))
    go_ret
    exact ⟨by first | rfl | (simp [errW_none, errW_some] <;> rfl) | (simp [*, errW_none, errW_some] <;> rfl), by repeat (first | (with_reducible first | exact HB.out | apply below_alloc | apply pw_below_drewN | apply below_drew1) | exact HB.out)⟩

/-- THE ONE PURE STATEMENT of bailiwicklaw04_MacTags: yours. -/
def bailiwicklaw04_MacTags.Pure : Prop := ∀ (a0 : ByteArray) (a1 : ByteArray) (a2 : ByteArray), a0.size ≤ 140737488351232 → a1.size ≤ 140737488351232 → a2.size ≤ 140737488351232 → ∃ k, bailiwicklaw04_MacTags.f k a0 a1 a2 = some true
theorem bailiwicklaw04_MacTags.walk (P : bailiwicklaw04_MacTags.Pure) (a0 : ByteArray) (a1 : ByteArray) (a2 : ByteArray) (w : World) (w0 : a0.size ≤ 140737488351232) (w1 : a1.size ≤ 140737488351232) (w2 : a2.size ≤ 140737488351232) :
    Calls Try.prog 9 #[.string a0, .string a1, .string a2] w fun e w' => e = .returned (.bool true) ∧ Below w.heap.size w w' := by
  obtain ⟨k, h⟩ := P a0 a1 a2 w0 w1 w2
  refine (bailiwicklaw04_MacTags.calls k a0 a1 a2 true w h).mono ?_
  rintro e w' ⟨rfl, hd⟩
  exact ⟨rfl, hd⟩

/-! ### bailiwicklaw04_MacKeys: function 10 -/
def bailiwicklaw04_MacKeys.j0 : Nat → ByteArray → ByteArray → Int → Bool → ByteArray → Bool → Option (Bool)
  | 0, _, _, _, _, _, _ => none
  | k + 1, x0, x1, x2, x7, x8, x35 => if x35 = true then (some false) else (if (x0.size : Int) > 64 then (if x7 = true then ((Go.Proofs.Ytakbdknmfaoppaa.R.Sum.f x0).bind fun t138 => ((Go.Proofs.Ytakbdknmfaoppaa.R.Mac.f t138 x1).bind fun t139 => (some (t139.toList == x8.toList)))) else (some false)) else (if x2 < 0 then (if (wrap64 (65 - (x0.size : Int))) = 0 then (none) else (if x7 = true then (if 0 ≤ (Int.tmod (wrap64 (-(wrap64 (x2 + 1)))) (wrap64 (65 - (x0.size : Int)))) then (if (Int.tmod (wrap64 (-(wrap64 (x2 + 1)))) (wrap64 (65 - (x0.size : Int))) : Int).toNat ≤ 281474976710656 then ((some (List.replicate (Int.tmod (wrap64 (-(wrap64 (x2 + 1)))) (wrap64 (65 - (x0.size : Int))) : Int).toNat 0 : List Int)).bind fun y140 => (if x0.size + (strOfNums y140).size ≤ 9223372036854775807 then ((Go.Proofs.Ytakbdknmfaoppaa.R.Mac.f (x0 ++ (strOfNums y140)) x1).bind fun t143 => (some (t143.toList == x8.toList))) else (none))) else (none)) else (none)) else (some false))) else (if (wrap64 (65 - (x0.size : Int))) = 0 then (none) else (if x7 = true then (if 0 ≤ (Int.tmod x2 (wrap64 (65 - (x0.size : Int)))) then (if (Int.tmod x2 (wrap64 (65 - (x0.size : Int))) : Int).toNat ≤ 281474976710656 then ((some (List.replicate (Int.tmod x2 (wrap64 (65 - (x0.size : Int))) : Int).toNat 0 : List Int)).bind fun y144 => (if x0.size + (strOfNums y144).size ≤ 9223372036854775807 then ((Go.Proofs.Ytakbdknmfaoppaa.R.Mac.f (x0 ++ (strOfNums y144)) x1).bind fun t147 => (some (t147.toList == x8.toList))) else (none))) else (none)) else (none)) else (some false)))))
def bailiwicklaw04_MacKeys.f (k : Nat) (a0 : ByteArray) (a1 : ByteArray) (a2 : Int) : Option (Bool) := (bailiwicklaw04_examples.f k).bind fun t135 => (if t135 = true then (if 0 ≤ (mn (a0.size : Int) 300) then (if (mn (a0.size : Int) 300) ≤ (a0.size : Int) then (if 0 ≤ (mn (a1.size : Int) 300) then (if (mn (a1.size : Int) 300) ≤ (a1.size : Int) then ((Go.Proofs.Ytakbdknmfaoppaa.R.Mac.f (a0.extract 0 ((mn (a0.size : Int) 300) : Int).toNat) (a1.extract 0 ((mn (a1.size : Int) 300) : Int).toNat)).bind fun t136 => (if (t136.size : Int) = 32 then ((mac_Tag.f (a0.extract 0 ((mn (a0.size : Int) 300) : Int).toNat) (a1.extract 0 ((mn (a1.size : Int) 300) : Int).toNat)).bind fun t137 => (if 0 ≤ 16 then (if 16 ≤ (t136.size : Int) then (bailiwicklaw04_MacKeys.j0 k (a0.extract 0 ((mn (a0.size : Int) 300) : Int).toNat) (a1.extract 0 ((mn (a1.size : Int) 300) : Int).toNat) a2 t135 t136 (t137.toList != (t136.extract 0 16).toList)) else (none)) else (none))) else (bailiwicklaw04_MacKeys.j0 k (a0.extract 0 ((mn (a0.size : Int) 300) : Int).toNat) (a1.extract 0 ((mn (a1.size : Int) 300) : Int).toNat) a2 t135 t136 true))) else (none)) else (none)) else (none)) else (none)) else (some false))
theorem bailiwicklaw04_MacKeys.mono_l : ∀ k, (∀ y0 y1 y2 y3 y4 y5, LeO (bailiwicklaw04_MacKeys.j0 k y0 y1 y2 y3 y4 y5) (bailiwicklaw04_MacKeys.j0 (k + 1) y0 y1 y2 y3 y4 y5))
  | 0 => fun _ _ _ _ _ _ r h => by simp [bailiwicklaw04_MacKeys.j0] at h
  | k + 1 => by
    have ih0 := bailiwicklaw04_MacKeys.mono_l k
    · intro y0 y1 y2 y3 y4 y5
      unfold bailiwicklaw04_MacKeys.j0
      repeat' first
      | (with_reducible exact ih0 _ _ _ _ _ _)
      | (with_reducible exact bailiwicklaw04_examples.mono _)
      | (with_reducible exact LeO.refl _)
      | (with_reducible exact LeO.none _)
      | (with_reducible refine LeO.ite ?_ ?_)
      | (with_reducible refine LeO.bind ?_ (fun _ => ?_))
      | exact ih0 _ _ _ _ _ _
      | exact bailiwicklaw04_examples.mono _
      | exact LeO.none _
      | refine LeO.ite ?_ ?_
      | refine LeO.bind ?_ (fun _ => ?_)
theorem bailiwicklaw04_MacKeys.mono : ∀ a0 a1 a2 k, LeO (bailiwicklaw04_MacKeys.f k a0 a1 a2) (bailiwicklaw04_MacKeys.f (k + 1) a0 a1 a2) := by
  intro a0 a1 a2 k
  have ih0 := bailiwicklaw04_MacKeys.mono_l k
  unfold bailiwicklaw04_MacKeys.f
  repeat' first
      | (with_reducible exact ih0 _ _ _ _ _ _)
      | (with_reducible exact bailiwicklaw04_examples.mono _)
      | (with_reducible exact LeO.refl _)
      | (with_reducible exact LeO.none _)
      | (with_reducible refine LeO.ite ?_ ?_)
      | (with_reducible refine LeO.bind ?_ (fun _ => ?_))
      | exact ih0 _ _ _ _ _ _
      | exact bailiwicklaw04_examples.mono _
      | exact LeO.none _
      | refine LeO.ite ?_ ?_
      | refine LeO.bind ?_ (fun _ => ?_)
def bailiwicklaw04_MacKeys.T7 : Bool × List (List Nat × List Nat) := (true, [([], []), ([0], [0]), ([1], [1]), ([2], [2]), ([3], [3]), ([3], [3]), ([4, 5, 3, 3], [3, 4, 5]), ([3], [3]), ([7, 3], [3, 7]), ([6, 8, 3], [3, 6, 8]), ([3, 9], [3, 9])])
def bailiwicklaw04_MacKeys.B7 : List Nat := [0, 1, 3, 7, 15, 15, 63, 15, 143, 511, 1023]
theorem bailiwicklaw04_MacKeys.tab7 : rtab .any (opsOf Try.f10 7) = bailiwicklaw04_MacKeys.T7 := by kernel_rfl
theorem bailiwicklaw04_MacKeys.bits7 : waitsOk bailiwicklaw04_MacKeys.T7.2 bailiwicklaw04_MacKeys.B7 = true := by kernel_rfl
set_option maxHeartbeats 8000000 in
set_option maxRecDepth 100000 in
theorem bailiwicklaw04_MacKeys.calls (k : Nat) (a0 : ByteArray) (a1 : ByteArray) (a2 : Int) (r : Bool) (w : World) (h : bailiwicklaw04_MacKeys.f k a0 a1 a2 = some r) :
    Calls Try.prog 10 #[.string a0, .string a1, .int .i64 a2] w fun e w' => e = .returned (.bool r) ∧ Below w.heap.size w w' := by
  have HB := Aside0.mk (Below.refl w.heap.size w)
  have H : ((bailiwicklaw04_examples.f k).bind fun t135 => (if t135 = true then (if 0 ≤ (mn (a0.size : Int) 300) then (if (mn (a0.size : Int) 300) ≤ (a0.size : Int) then (if 0 ≤ (mn (a1.size : Int) 300) then (if (mn (a1.size : Int) 300) ≤ (a1.size : Int) then ((Go.Proofs.Ytakbdknmfaoppaa.R.Mac.f (a0.extract 0 ((mn (a0.size : Int) 300) : Int).toNat) (a1.extract 0 ((mn (a1.size : Int) 300) : Int).toNat)).bind fun t136 => (if (t136.size : Int) = 32 then ((mac_Tag.f (a0.extract 0 ((mn (a0.size : Int) 300) : Int).toNat) (a1.extract 0 ((mn (a1.size : Int) 300) : Int).toNat)).bind fun t137 => (if 0 ≤ 16 then (if 16 ≤ (t136.size : Int) then (bailiwicklaw04_MacKeys.j0 k (a0.extract 0 ((mn (a0.size : Int) 300) : Int).toNat) (a1.extract 0 ((mn (a1.size : Int) 300) : Int).toNat) a2 t135 t136 (t137.toList != (t136.extract 0 16).toList)) else (none)) else (none))) else (bailiwicklaw04_MacKeys.j0 k (a0.extract 0 ((mn (a0.size : Int) 300) : Int).toNat) (a1.extract 0 ((mn (a1.size : Int) 300) : Int).toNat) a2 t135 t136 true))) else (none)) else (none)) else (none)) else (none)) else (some false))) = some r := h
  clear h
  replace H := Option.bind_eq_some_iff.mp H
  obtain ⟨t135, A40, H⟩ := H
  replace H : (if t135 = true then (if 0 ≤ (mn (a0.size : Int) 300) then (if (mn (a0.size : Int) 300) ≤ (a0.size : Int) then (if 0 ≤ (mn (a1.size : Int) 300) then (if (mn (a1.size : Int) 300) ≤ (a1.size : Int) then ((Go.Proofs.Ytakbdknmfaoppaa.R.Mac.f (a0.extract 0 ((mn (a0.size : Int) 300) : Int).toNat) (a1.extract 0 ((mn (a1.size : Int) 300) : Int).toNat)).bind fun t136 => (if (t136.size : Int) = 32 then ((mac_Tag.f (a0.extract 0 ((mn (a0.size : Int) 300) : Int).toNat) (a1.extract 0 ((mn (a1.size : Int) 300) : Int).toNat)).bind fun t137 => (if 0 ≤ 16 then (if 16 ≤ (t136.size : Int) then (bailiwicklaw04_MacKeys.j0 k (a0.extract 0 ((mn (a0.size : Int) 300) : Int).toNat) (a1.extract 0 ((mn (a1.size : Int) 300) : Int).toNat) a2 t135 t136 (t137.toList != (t136.extract 0 16).toList)) else (none)) else (none))) else (bailiwicklaw04_MacKeys.j0 k (a0.extract 0 ((mn (a0.size : Int) 300) : Int).toNat) (a1.extract 0 ((mn (a1.size : Int) 300) : Int).toNat) a2 t135 t136 true))) else (none)) else (none)) else (none)) else (none)) else (some false)) = some r := H
  have A4 := Aside0.mk A40
  clear A40
  by_cases c5 : t135 = true
  · subst c5
    have H1 : (if 0 ≤ (mn (a0.size : Int) 300) then (if (mn (a0.size : Int) 300) ≤ (a0.size : Int) then (if 0 ≤ (mn (a1.size : Int) 300) then (if (mn (a1.size : Int) 300) ≤ (a1.size : Int) then ((Go.Proofs.Ytakbdknmfaoppaa.R.Mac.f (a0.extract 0 ((mn (a0.size : Int) 300) : Int).toNat) (a1.extract 0 ((mn (a1.size : Int) 300) : Int).toNat)).bind fun t136 => (if (t136.size : Int) = 32 then ((mac_Tag.f (a0.extract 0 ((mn (a0.size : Int) 300) : Int).toNat) (a1.extract 0 ((mn (a1.size : Int) 300) : Int).toNat)).bind fun t137 => (if 0 ≤ 16 then (if 16 ≤ (t136.size : Int) then (bailiwicklaw04_MacKeys.j0 k (a0.extract 0 ((mn (a0.size : Int) 300) : Int).toNat) (a1.extract 0 ((mn (a1.size : Int) 300) : Int).toNat) a2 true t136 (t137.toList != (t136.extract 0 16).toList)) else (none)) else (none))) else (bailiwicklaw04_MacKeys.j0 k (a0.extract 0 ((mn (a0.size : Int) 300) : Int).toNat) (a1.extract 0 ((mn (a1.size : Int) 300) : Int).toNat) a2 true t136 true))) else (none)) else (none)) else (none)) else (none)) = some r := by first | (rw [if_pos rfl] at H; exact H) | (rw [if_pos trivial] at H; exact H)
    clear H
    have H := H1
    clear H1
    obtain ⟨ji6, hji6⟩ : ∃ j_ : Int, (mn (a0.size : Int) 300) = j_ := ⟨_, rfl⟩
    replace H : (if 0 ≤ (ji6) then (if (ji6) ≤ (a0.size : Int) then (if 0 ≤ (mn (a1.size : Int) 300) then (if (mn (a1.size : Int) 300) ≤ (a1.size : Int) then ((Go.Proofs.Ytakbdknmfaoppaa.R.Mac.f (a0.extract 0 ((ji6) : Int).toNat) (a1.extract 0 ((mn (a1.size : Int) 300) : Int).toNat)).bind fun t136 => (if (t136.size : Int) = 32 then ((mac_Tag.f (a0.extract 0 ((ji6) : Int).toNat) (a1.extract 0 ((mn (a1.size : Int) 300) : Int).toNat)).bind fun t137 => (if 0 ≤ 16 then (if 16 ≤ (t136.size : Int) then (bailiwicklaw04_MacKeys.j0 k (a0.extract 0 ((ji6) : Int).toNat) (a1.extract 0 ((mn (a1.size : Int) 300) : Int).toNat) a2 true t136 (t137.toList != (t136.extract 0 16).toList)) else (none)) else (none))) else (bailiwicklaw04_MacKeys.j0 k (a0.extract 0 ((ji6) : Int).toNat) (a1.extract 0 ((mn (a1.size : Int) 300) : Int).toNat) a2 true t136 true))) else (none)) else (none)) else (none)) else (none)) = some r := by first | (rw [hji6] at H; exact H) | (simp only [hji6] at H ⊢; exact H)
    (try rw [hji6] at A4)
    (try (have hji6h : ji6 ≤ 300 := by (rw [← hji6]; unfold mn; (repeat' split) <;> omega)))
    (try (have hji6g : ji6 ≤ 64 := by omega))
    (try (have hji6l : 0 ≤ ji6 := by (rw [← hji6]; unfold mn; (repeat' split) <;> omega)))
    (try (have hji6m : 0 ≤ ji6 := by omega))
    have hji6_ : (if 300 < (a0.size : Int) then 300 else (a0.size : Int)) = ji6 := hji6
    obtain ⟨bx6_a0, hbx6_a0⟩ : ∃ b_ : ByteArray, (a0.extract 0 (ji6 : Int).toNat) = b_ := ⟨_, rfl⟩
    have hbx6_a0z : bx6_a0.size ≤ 300 := by rw [← hbx6_a0, ByteArray.size_extract]; omega
    simp only [hbx6_a0] at H
    by_cases c7 : 0 ≤ (ji6)
    · rw [if_pos c7] at H
      have c7b0 := eq_true c7
      have c7b1 : decide (0 ≤ (ji6)) = true := decide_eq_true c7
      clear c7
      by_cases c8 : (ji6) ≤ (a0.size : Int)
      · rw [if_pos c8] at H
        have c8b0 := eq_true c8
        have c8b1 : decide ((ji6) ≤ (a0.size : Int)) = true := decide_eq_true c8
        clear c8
        obtain ⟨ji9, hji9⟩ : ∃ j_ : Int, (mn (a1.size : Int) 300) = j_ := ⟨_, rfl⟩
        replace H : (if 0 ≤ (ji9) then (if (ji9) ≤ (a1.size : Int) then ((Go.Proofs.Ytakbdknmfaoppaa.R.Mac.f bx6_a0 (a1.extract 0 ((ji9) : Int).toNat)).bind fun t136 => (if (t136.size : Int) = 32 then ((mac_Tag.f bx6_a0 (a1.extract 0 ((ji9) : Int).toNat)).bind fun t137 => (if 0 ≤ 16 then (if 16 ≤ (t136.size : Int) then (bailiwicklaw04_MacKeys.j0 k bx6_a0 (a1.extract 0 ((ji9) : Int).toNat) a2 true t136 (t137.toList != (t136.extract 0 16).toList)) else (none)) else (none))) else (bailiwicklaw04_MacKeys.j0 k bx6_a0 (a1.extract 0 ((ji9) : Int).toNat) a2 true t136 true))) else (none)) else (none)) = some r := by first | (rw [hji9] at H; exact H) | (simp only [hji9] at H ⊢; exact H)
        (try rw [hji9] at A4)
        (try (have hji9h : ji9 ≤ 300 := by (rw [← hji9]; unfold mn; (repeat' split) <;> omega)))
        (try (have hji9g : ji9 ≤ 64 := by omega))
        (try (have hji9l : 0 ≤ ji9 := by (rw [← hji9]; unfold mn; (repeat' split) <;> omega)))
        (try (have hji9m : 0 ≤ ji9 := by omega))
        have hji9_ : (if 300 < (a1.size : Int) then 300 else (a1.size : Int)) = ji9 := hji9
        obtain ⟨bx9_a1, hbx9_a1⟩ : ∃ b_ : ByteArray, (a1.extract 0 (ji9 : Int).toNat) = b_ := ⟨_, rfl⟩
        have hbx9_a1z : bx9_a1.size ≤ 300 := by rw [← hbx9_a1, ByteArray.size_extract]; omega
        simp only [hbx9_a1] at H
        by_cases c10 : 0 ≤ (ji9)
        · rw [if_pos c10] at H
          have c10b0 := eq_true c10
          have c10b1 : decide (0 ≤ (ji9)) = true := decide_eq_true c10
          clear c10
          by_cases c11 : (ji9) ≤ (a1.size : Int)
          · rw [if_pos c11] at H
            have c11b0 := eq_true c11
            have c11b1 : decide ((ji9) ≤ (a1.size : Int)) = true := decide_eq_true c11
            clear c11
            replace H := Option.bind_eq_some_iff.mp H
            obtain ⟨t136, A120, H⟩ := H
            replace H : (if (t136.size : Int) = 32 then ((mac_Tag.f bx6_a0 bx9_a1).bind fun t137 => (if 0 ≤ 16 then (if 16 ≤ (t136.size : Int) then (bailiwicklaw04_MacKeys.j0 k bx6_a0 bx9_a1 a2 true t136 (t137.toList != (t136.extract 0 16).toList)) else (none)) else (none))) else (bailiwicklaw04_MacKeys.j0 k bx6_a0 bx9_a1 a2 true t136 true)) = some r := H
            have A12 := Aside0.mk A120
            clear A120
            have HC13 := Aside0.mk H
            clear H
            go_enter Try.func10, Try.ntmps10
            (try dsimp only [List.append])
            go_upto_region 7 with (first | ((with_reducible refine gate_callee (f := 17) rfl ?_); refine goesL_ (some 9) rfl rfl Try.func17 (by kernel_rfl) rfl #[] rfl (by (try simp only [List.map_toArray, List.map_cons, List.map_nil]); first | done | rfl | (simp only [List.length_drop, List.length_take]; rfl)) ?_; (with_reducible refine (bailiwicklaw04_examples.calls k  true _ A4.out).mono ?_); rintro e w14 ⟨rfl, hb⟩; refine ⟨_, rfl, ?_⟩; have n0_ := Aside0.mk (below_step (by repeat (first | (with_reducible first | exact HB.out | apply below_alloc | apply pw_below_drewN | apply below_drew1) | exact HB.out)) hb); clear HB; have HB := n0_; clear n0_; (try clear hb); (try clear hb2); (try clear hk); (try clear hi)) | ((with_reducible refine gate_callee (f := 19) rfl ?_); refine goesL_ (some 24) rfl rfl Try.func19 (by kernel_rfl) rfl #[.string bx6_a0, .string bx9_a1] rfl (by (try simp only [List.map_toArray, List.map_cons, List.map_nil]); first | done | (simp only [hji6, hji9]; rfl) | rfl | (simp only [List.length_drop, List.length_take]; rfl)) ?_; (with_reducible refine (Go.Proofs.Ytakbdknmfaoppaa.R.Mac.calls bx6_a0 bx9_a1 t136 _ A12.out).mono ?_); rintro e w15 ⟨rfl, hb⟩; refine ⟨_, rfl, ?_⟩; have n0_ := Aside0.mk (below_step (by repeat (first | (with_reducible first | exact HB.out | apply below_alloc | apply pw_below_drewN | apply below_drew1) | exact HB.out)) hb); clear HB; have HB := n0_; clear n0_; (try clear hb); (try clear hb2); (try clear hk); (try clear hi)))
            (try simp only [Act.put, List.setIfInBounds_toArray, List.set_cons_zero, List.set_cons_succ])
            go_cut [35] (fun v35 wc => ∃ (kq : Nat) (x35_12 : Bool), v35 = .bool x35_12 ∧ Aside0 (bailiwicklaw04_MacKeys.j0 kq bx6_a0 bx9_a1 a2 true t136 x35_12 = some r) ∧ Aside0 (kq ≤ k) ∧ Aside0 (Below w.heap.size w wc))
            case first =>
              have H := HC13.out
              clear HC13
              by_cases c16 : (t136.size : Int) = 32
              · rw [if_pos c16] at H
                have c16b0 : ((t136.size : Int) == 32) = true := beq_iff_eq.mpr c16
                have c16b1 : ((t136.size : Int) != 32) = false := bne_eq_false_iff_eq.mpr c16
                clear c16
                (first | rw [c16b0] | (simp only [i64_w, i32_w]; rw [c16b0]) | skip)
                replace H := Option.bind_eq_some_iff.mp H
                obtain ⟨t137, A170, H⟩ := H
                replace H : (if 0 ≤ 16 then (if 16 ≤ (t136.size : Int) then (bailiwicklaw04_MacKeys.j0 k bx6_a0 bx9_a1 a2 true t136 (t137.toList != (t136.extract 0 16).toList)) else (none)) else (none)) = some r := H
                have A17 := Aside0.mk A170
                clear A170
                by_cases c18 : 0 ≤ 16
                · rw [if_pos c18] at H
                  have c18b0 := eq_true c18
                  have c18b1 : decide (0 ≤ 16) = true := decide_eq_true c18
                  clear c18
                  by_cases c19 : 16 ≤ (t136.size : Int)
                  · rw [if_pos c19] at H
                    have c19b0 := eq_true c19
                    have c19b1 : decide (16 ≤ (t136.size : Int)) = true := decide_eq_true c19
                    clear c19
                    have H' := Aside0.mk H
                    clear H
                    try go_wp2
                    have n0_ := Aside0.mk (below_drew1 HB.out)
                    clear HB
                    have HB := n0_
                    clear n0_
                    refine start_ (n := 11) (S := fun w' => True) (ds := []) #[false, false, false, false, false, false, false, false, false, false, false] (by kernel_rfl) rfl rfl trivial (fun hHeld => ?_); refine with_tabW bailiwicklaw04_MacKeys.tab7 bailiwicklaw04_MacKeys.bits7 (fun HT_ HW_ => ?_)
                    generalize w15.drew = w20 at HB hHeld ⊢
                    refine pure_ (i := 0) (N := some 25) (v := ?_) (a' := ?_) #[true, false, false, false, false, false, false, false, false, false, false] rfl rfl (any_of HT_.out (by kernel_rfl)) (fun _ _ _ h => h) (Or.inl ⟨by rfl, ?_⟩) ?_ ?_
                    rotate_left
                    · intro w'
                      go_simp
                      with_reducible rfl
                    rotate_left
                    · simp only [Act.put, List.setIfInBounds_toArray, List.set_cons_zero, List.set_cons_succ, i64_w, i32_w]
                      rfl
                    refine pure_ (i := 1) (N := some 26) (v := ?_) (a' := ?_) #[true, true, false, false, false, false, false, false, false, false, false] rfl rfl (any_of HT_.out (by kernel_rfl)) (fun _ _ _ h => h) (Or.inl ⟨by rfl, ?_⟩) ?_ ?_
                    rotate_left
                    · intro w'
                      go_simp
                      with_reducible rfl
                    rotate_left
                    · simp only [Act.put, List.setIfInBounds_toArray, List.set_cons_zero, List.set_cons_succ, i64_w, i32_w]
                      rfl
                    refine pure_ (i := 2) (N := some 27) (v := ?_) (a' := ?_) #[true, true, true, false, false, false, false, false, false, false, false] rfl rfl (any_of HT_.out (by kernel_rfl)) (fun _ _ _ h => h) (Or.inl ⟨by rfl, ?_⟩) ?_ ?_
                    rotate_left
                    · intro w'
                      go_simp
                      with_reducible rfl
                    rotate_left
                    · simp only [Act.put, List.setIfInBounds_toArray, List.set_cons_zero, List.set_cons_succ, i64_w, i32_w]
                      rfl
                    refine pure_ (i := 3) (N := some 28) (v := ?_) (a' := ?_) #[true, true, true, true, false, false, false, false, false, false, false] rfl rfl (any_of HT_.out (by kernel_rfl)) (fun _ _ _ h => h) (Or.inl ⟨by rfl, ?_⟩) ?_ ?_
                    rotate_left
                    · intro w'
                      go_simp
                      with_reducible rfl
                    rotate_left
                    · simp only [Act.put, List.setIfInBounds_toArray, List.set_cons_zero, List.set_cons_succ, i64_w, i32_w]
                      rfl
                    refine pure_ (i := 4) (N := some 29) (v := ?_) (a' := ?_) #[true, true, true, true, true, false, false, false, false, false, false] rfl rfl (any_of HT_.out (by kernel_rfl)) (fun _ _ _ h => h) (Or.inl ⟨by rfl, ?_⟩) ?_ ?_
                    rotate_left
                    · intro w'
                      go_simp
                      with_reducible rfl
                    rotate_left
                    · simp only [Act.put, List.setIfInBounds_toArray, List.set_cons_zero, List.set_cons_succ, i64_w, i32_w]
                      rfl
                    refine pure_ (i := 5) (N := some 30) (v := ?_) (a' := ?_) #[true, true, true, true, true, true, false, false, false, false, false] rfl rfl (any_of HT_.out (by kernel_rfl)) (fun _ _ _ h => h) (Or.inl ⟨by rfl, ?_⟩) ?_ ?_
                    rotate_left
                    · intro w'
                      go_simp
                      with_reducible rfl
                    rotate_left
                    · simp only [Act.put, List.setIfInBounds_toArray, List.set_cons_zero, List.set_cons_succ, i64_w, i32_w]
                      rfl
                    refine pure_ (i := 7) (N := some 32) (v := ?_) (a' := ?_) #[true, true, true, true, true, true, false, true, false, false, false] rfl rfl (any_of HT_.out (by kernel_rfl)) (fun _ _ _ h => h) (Or.inl ⟨by rfl, ?_⟩) ?_ ?_
                    rotate_left
                    · intro w'
                      go_simp
                      with_reducible rfl
                    rotate_left
                    · simp only [Act.put, List.setIfInBounds_toArray, List.set_cons_zero, List.set_cons_succ, i64_w, i32_w]
                      rfl
                    refine pure_ (i := 8) (N := some 33) (v := ?_) (a' := ?_) #[true, true, true, true, true, true, false, true, true, false, false] rfl rfl (any_of HT_.out (by kernel_rfl)) (fun _ _ _ h => h) (Or.inl ⟨by rfl, ?_⟩) ?_ ?_
                    rotate_left
                    · intro w'
                      go_simp
                      with_reducible rfl
                    rotate_left
                    · simp only [Act.put, List.setIfInBounds_toArray, List.set_cons_zero, List.set_cons_succ, i64_w, i32_w]
                      rfl
                    refine one_ (i := 6) (N := some 31) #[true, true, true, true, true, true, true, true, true, false, false] rfl rfl (one_of HT_.out (by kernel_rfl)) (by decide) (fun K hK => ?_)
                    refine goes_ Try.func21 (by kernel_rfl) rfl #[.string bx6_a0, .string bx9_a1] (by rfl) rfl rfl (by (try simp only [List.map_toArray, List.map_cons, List.map_nil]); first | done | (simp only [hji6, hji9]; rfl) | rfl | (simp only [List.length_drop, List.length_take]; rfl)) ?_
                    with_reducible refine (mac_Tag.calls bx6_a0 bx9_a1 t137 _ A17.out).mono ?_
                    rintro e w21 ⟨rfl, hb⟩
                    refine ⟨_, rfl, ?_⟩
                    have n0_ := Aside0.mk (below_step (by repeat (first | (with_reducible first | exact HB.out | apply below_alloc | apply pw_below_drewN | apply below_drew1) | exact HB.out)) hb)
                    clear HB
                    have HB := n0_
                    clear n0_
                    (try clear hb)
                    (try clear hb2)
                    (try clear hk)
                    (try clear hi)
                    refine hK.out _ _ trivial (fun hHeld => ?_)
                    clear hK K
                    refine norm_ (a' := ?_) ?_ ?_
                    rotate_left
                    · show Act.put _ (some 31) _ = _
                      simp only [Act.put, List.setIfInBounds_toArray, List.set_cons_zero, List.set_cons_succ, i64_w, i32_w]
                      rfl
                    refine pure_ (i := 9) (N := some 34) (v := ?_) (a' := ?_) #[true, true, true, true, true, true, true, true, true, true, false] rfl rfl (any_of HT_.out (by kernel_rfl)) (fun _ _ _ h => h) (Or.inl ⟨by rfl, ?_⟩) ?_ ?_
                    rotate_left
                    · intro w'
                      go_simp
                      with_reducible rfl
                    rotate_left
                    · simp only [Act.put, List.setIfInBounds_toArray, List.set_cons_zero, List.set_cons_succ, i64_w, i32_w]
                      rfl
                    refine pure_ (i := 10) (N := some 35) (v := ?_) (a' := ?_) #[true, true, true, true, true, true, true, true, true, true, true] rfl rfl (any_of HT_.out (by kernel_rfl)) (fun _ _ _ h => h) (Or.inl ⟨by rfl, ?_⟩) ?_ ?_
                    rotate_left
                    · intro w'
                      go_simp
                      with_reducible rfl
                    rotate_left
                    · simp only [Act.put, List.setIfInBounds_toArray, List.set_cons_zero, List.set_cons_succ, i64_w, i32_w]
                      rfl
                    refine done_ (done_of HT_.out (by kernel_rfl)) ?_
                    try go_wp2
                    go_meet
                    case rel => exact ⟨_, ((t137.toList != (t136.extract 0 16).toList)), (by first | rfl | (simp; done) | (simp [*]; done)), H', ⟨by first | omega | exact Nat.le_refl _⟩, ⟨by repeat (first | (with_reducible first | exact HB.out | apply below_alloc | apply pw_below_drewN | apply below_drew1) | exact HB.out)⟩⟩
                  · rw [if_neg c19] at H
                    exact absurd H (by simp)
                · rw [if_neg c18] at H
                  exact absurd H (by simp)
              · rw [if_neg c16] at H
                have c16b0 : ((t136.size : Int) == 32) = false := beq_eq_false_iff_ne.mpr c16
                have c16b1 : ((t136.size : Int) != 32) = true := bne_iff_ne.mpr c16
                (first | rw [c16b0] | (simp only [i64_w, i32_w]; rw [c16b0]) | skip)
                have H' := Aside0.mk H
                clear H
                try go_wp2
                have n0_ := Aside0.mk (below_drew1 HB.out)
                clear HB
                have HB := n0_
                clear n0_
                refine start_ (n := 11) (S := fun w' => True) (ds := []) #[false, false, false, false, false, false, false, false, false, false, false] (by kernel_rfl) rfl rfl trivial (fun hHeld => ?_); refine with_tabW bailiwicklaw04_MacKeys.tab7 bailiwicklaw04_MacKeys.bits7 (fun HT_ HW_ => ?_)
                generalize w15.drew = w22 at HB hHeld ⊢
                refine pure_ (i := 0) (N := some 25) (v := ?_) (a' := ?_) #[true, false, false, false, false, false, false, false, false, false, false] rfl rfl (any_of HT_.out (by kernel_rfl)) (fun _ _ _ h => h) (Or.inl ⟨by rfl, ?_⟩) ?_ ?_
                rotate_left
                · intro w'
                  go_simp
                  with_reducible rfl
                rotate_left
                · simp only [Act.put, List.setIfInBounds_toArray, List.set_cons_zero, List.set_cons_succ, i64_w, i32_w]
                  rfl
                refine pure_ (i := 1) (N := some 26) (v := ?_) (a' := ?_) #[true, true, false, false, false, false, false, false, false, false, false] rfl rfl (any_of HT_.out (by kernel_rfl)) (fun _ _ _ h => h) (Or.inl ⟨by rfl, ?_⟩) ?_ ?_
                rotate_left
                · intro w'
                  go_simp
                  with_reducible rfl
                rotate_left
                · simp only [Act.put, List.setIfInBounds_toArray, List.set_cons_zero, List.set_cons_succ, i64_w, i32_w]
                  rfl
                refine pure_ (i := 2) (N := some 27) (v := ?_) (a' := ?_) #[true, true, true, false, false, false, false, false, false, false, false] rfl rfl (any_of HT_.out (by kernel_rfl)) (fun _ _ _ h => h) (Or.inl ⟨by rfl, ?_⟩) ?_ ?_
                rotate_left
                · intro w'
                  go_simp
                  with_reducible rfl
                rotate_left
                · simp only [Act.put, List.setIfInBounds_toArray, List.set_cons_zero, List.set_cons_succ, i64_w, i32_w]
                  rfl
                refine pure_ (i := 3) (N := some 28) (v := ?_) (a' := ?_) #[true, true, true, true, false, false, false, false, false, false, false] rfl rfl (any_of HT_.out (by kernel_rfl)) (fun _ _ _ h => h) (Or.inl ⟨by rfl, ?_⟩) ?_ ?_
                rotate_left
                · intro w'
                  go_simp
                  with_reducible rfl
                rotate_left
                · simp only [Act.put, List.setIfInBounds_toArray, List.set_cons_zero, List.set_cons_succ, i64_w, i32_w]
                  rfl
                refine pure_ (i := 4) (N := some 29) (v := undef) (a' := ?_) #[true, true, true, true, true, false, false, false, false, false, false] rfl rfl (any_of HT_.out (by kernel_rfl)) (fun _ _ _ h => h) (Or.inr ⟨by rfl, rfl⟩) ?_ ?_
                rotate_left
                · simp only [Act.put, List.setIfInBounds_toArray, List.set_cons_zero, List.set_cons_succ, i64_w, i32_w]
                  rfl
                refine pure_ (i := 5) (N := some 30) (v := undef) (a' := ?_) #[true, true, true, true, true, true, false, false, false, false, false] rfl rfl (any_of HT_.out (by kernel_rfl)) (fun _ _ _ h => h) (Or.inr ⟨by rfl, rfl⟩) ?_ ?_
                rotate_left
                · simp only [Act.put, List.setIfInBounds_toArray, List.set_cons_zero, List.set_cons_succ, i64_w, i32_w]
                  rfl
                refine pure_ (i := 6) (N := some 31) (v := undef) (a' := ?_) #[true, true, true, true, true, true, true, false, false, false, false] rfl rfl (any_of HT_.out (by kernel_rfl)) (fun _ _ _ h => h) (Or.inr ⟨by rfl, rfl⟩) ?_ ?_
                rotate_left
                · simp only [Act.put, List.setIfInBounds_toArray, List.set_cons_zero, List.set_cons_succ, i64_w, i32_w]
                  rfl
                refine pure_ (i := 7) (N := some 32) (v := undef) (a' := ?_) #[true, true, true, true, true, true, true, true, false, false, false] rfl rfl (any_of HT_.out (by kernel_rfl)) (fun _ _ _ h => h) (Or.inr ⟨by rfl, rfl⟩) ?_ ?_
                rotate_left
                · simp only [Act.put, List.setIfInBounds_toArray, List.set_cons_zero, List.set_cons_succ, i64_w, i32_w]
                  rfl
                refine pure_ (i := 8) (N := some 33) (v := undef) (a' := ?_) #[true, true, true, true, true, true, true, true, true, false, false] rfl rfl (any_of HT_.out (by kernel_rfl)) (fun _ _ _ h => h) (Or.inr ⟨by rfl, rfl⟩) ?_ ?_
                rotate_left
                · simp only [Act.put, List.setIfInBounds_toArray, List.set_cons_zero, List.set_cons_succ, i64_w, i32_w]
                  rfl
                refine pure_ (i := 9) (N := some 34) (v := undef) (a' := ?_) #[true, true, true, true, true, true, true, true, true, true, false] rfl rfl (any_of HT_.out (by kernel_rfl)) (fun _ _ _ h => h) (Or.inr ⟨by rfl, rfl⟩) ?_ ?_
                rotate_left
                · simp only [Act.put, List.setIfInBounds_toArray, List.set_cons_zero, List.set_cons_succ, i64_w, i32_w]
                  rfl
                refine pure_ (i := 10) (N := some 35) (v := ?_) (a' := ?_) #[true, true, true, true, true, true, true, true, true, true, true] rfl rfl (any_of HT_.out (by kernel_rfl)) (fun _ _ _ h => h) (Or.inl ⟨by rfl, ?_⟩) ?_ ?_
                rotate_left
                · intro w'
                  go_simp
                  with_reducible rfl
                rotate_left
                · simp only [Act.put, List.setIfInBounds_toArray, List.set_cons_zero, List.set_cons_succ, i64_w, i32_w]
                  rfl
                refine done_ (done_of HT_.out (by kernel_rfl)) ?_
                try go_wp2
                go_meet
                case rel => exact ⟨_, (true), (by first | rfl | (simp; done) | (simp [*]; done)), H', ⟨by first | omega | exact Nat.le_refl _⟩, ⟨by repeat (first | (with_reducible first | exact HB.out | apply below_alloc | apply pw_below_drewN | apply below_drew1) | exact HB.out)⟩⟩
            case rest =>
              clear HC13
              try clear c1
              try clear c2
              try clear p2
              try clear c5
              try clear c7
              try clear c7b0
              try clear c7b1
              try clear c8
              try clear c8b0
              try clear c8b1
              try clear c10
              try clear c10b0
              try clear c10b1
              try clear c11
              try clear c11b0
              try clear c11b1
              try clear c16
              try clear c16b0
              try clear c16b1
              try clear c17
              try clear c18
              try clear c18b0
              try clear c18b1
              try clear c19
              try clear c19b0
              try clear c19b1
              try clear c21
              obtain ⟨kq, x35_12, rfl, HA, HJ12, HB⟩ := hcut
              cases kq with
              | zero => exact absurd HA.out (by simp [bailiwicklaw04_MacKeys.j0])
              | succ kj12 =>
                have H := HA.out
                clear HA
                simp only [bailiwicklaw04_MacKeys.j0] at H
                by_cases c23 : x35_12 = true
                · subst c23
                  have H1 : (some false) = some r := by first | (rw [if_pos rfl] at H; exact H) | (rw [if_pos trivial] at H; exact H)
                  clear H
                  have H := H1
                  clear H1
                  obtain rfl := Option.some.inj H
                  go_wp2
                  go_ret
                  exact ⟨by first | rfl | (simp [errW_none, errW_some] <;> rfl) | (simp only [← hji6, ← hji9]; first | rfl | (simp [errW_none, errW_some] <;> rfl)) | (simp [*, errW_none, errW_some] <;> rfl), by repeat (first | (with_reducible first | exact HB.out | apply below_alloc | apply pw_below_drewN | apply below_drew1) | exact HB.out)⟩
                · replace c23 := Bool.eq_false_iff.mpr c23
                  subst c23
                  have H1 : (if (bx6_a0.size : Int) > 64 then (if true = true then ((Go.Proofs.Ytakbdknmfaoppaa.R.Sum.f bx6_a0).bind fun t138 => ((Go.Proofs.Ytakbdknmfaoppaa.R.Mac.f t138 bx9_a1).bind fun t139 => (some (t139.toList == t136.toList)))) else (some false)) else (if a2 < 0 then (if (wrap64 (65 - (bx6_a0.size : Int))) = 0 then (none) else (if true = true then (if 0 ≤ (Int.tmod (wrap64 (-(wrap64 (a2 + 1)))) (wrap64 (65 - (bx6_a0.size : Int)))) then (if (Int.tmod (wrap64 (-(wrap64 (a2 + 1)))) (wrap64 (65 - (bx6_a0.size : Int))) : Int).toNat ≤ 281474976710656 then ((some (List.replicate (Int.tmod (wrap64 (-(wrap64 (a2 + 1)))) (wrap64 (65 - (bx6_a0.size : Int))) : Int).toNat 0 : List Int)).bind fun y140 => (if bx6_a0.size + (strOfNums y140).size ≤ 9223372036854775807 then ((Go.Proofs.Ytakbdknmfaoppaa.R.Mac.f (bx6_a0 ++ (strOfNums y140)) bx9_a1).bind fun t143 => (some (t143.toList == t136.toList))) else (none))) else (none)) else (none)) else (some false))) else (if (wrap64 (65 - (bx6_a0.size : Int))) = 0 then (none) else (if true = true then (if 0 ≤ (Int.tmod a2 (wrap64 (65 - (bx6_a0.size : Int)))) then (if (Int.tmod a2 (wrap64 (65 - (bx6_a0.size : Int))) : Int).toNat ≤ 281474976710656 then ((some (List.replicate (Int.tmod a2 (wrap64 (65 - (bx6_a0.size : Int))) : Int).toNat 0 : List Int)).bind fun y144 => (if bx6_a0.size + (strOfNums y144).size ≤ 9223372036854775807 then ((Go.Proofs.Ytakbdknmfaoppaa.R.Mac.f (bx6_a0 ++ (strOfNums y144)) bx9_a1).bind fun t147 => (some (t147.toList == t136.toList))) else (none))) else (none)) else (none)) else (some false))))) = some r := by rw [if_neg (show ¬ (false = true) by decide)] at H; exact H
                  clear H
                  have H := H1
                  clear H1
                  by_cases c24 : (bx6_a0.size : Int) > 64
                  · rw [if_pos c24] at H
                    have c24b0 : decide (64 < (bx6_a0.size : Int)) = true := decide_eq_true c24
                    have c24b1 : decide (64 < bx6_a0.size) = true := decide_eq_true (by omega)
                    clear c24
                    by_cases c25 : true = true
                    · clear c25
                      have H1 : ((Go.Proofs.Ytakbdknmfaoppaa.R.Sum.f bx6_a0).bind fun t138 => ((Go.Proofs.Ytakbdknmfaoppaa.R.Mac.f t138 bx9_a1).bind fun t139 => (some (t139.toList == t136.toList)))) = some r := by first | (rw [if_pos rfl] at H; exact H) | (rw [if_pos trivial] at H; exact H)
                      clear H
                      have H := H1
                      clear H1
                      replace H := Option.bind_eq_some_iff.mp H
                      obtain ⟨t138, A260, H⟩ := H
                      replace H : ((Go.Proofs.Ytakbdknmfaoppaa.R.Mac.f t138 bx9_a1).bind fun t139 => (some (t139.toList == t136.toList))) = some r := H
                      have A26 := Aside0.mk A260
                      clear A260
                      replace H := Option.bind_eq_some_iff.mp H
                      obtain ⟨t139, A270, H⟩ := H
                      replace H : (some (t139.toList == t136.toList)) = some r := H
                      have A27 := Aside0.mk A270
                      clear A270
                      obtain rfl := Option.some.inj H
                      go_wp2_with (first | (go_at_call 12; (with_reducible refine (Go.Proofs.Ytakbdknmfaoppaa.R.Sum.calls bx6_a0 t138 _ A26.out).mono ?_); rintro e w28 ⟨rfl, hb⟩; have n0_ := Aside0.mk (below_step (by repeat (first | (with_reducible first | exact HB.out | apply below_alloc | apply pw_below_drewN | apply below_drew1) | exact HB.out)) hb); clear HB; have HB := n0_; clear n0_; (try clear hb); (try clear hb2); (try clear hk); (try clear hi)) | (go_at_call 19; (with_reducible refine (Go.Proofs.Ytakbdknmfaoppaa.R.Mac.calls t138 bx9_a1 t139 _ A27.out).mono ?_); rintro e w29 ⟨rfl, hb⟩; have n0_ := Aside0.mk (below_step (by repeat (first | (with_reducible first | exact HB.out | apply below_alloc | apply pw_below_drewN | apply below_drew1) | exact HB.out)) hb); clear HB; have HB := n0_; clear n0_; (try clear hb); (try clear hb2); (try clear hk); (try clear hi)))
                      go_ret
                      exact ⟨by first | rfl | (simp [errW_none, errW_some] <;> rfl) | (simp only [← hji6, ← hji9]; first | rfl | (simp [errW_none, errW_some] <;> rfl)) | (simp [*, errW_none, errW_some] <;> rfl), by repeat (first | (with_reducible first | exact HB.out | apply below_alloc | apply pw_below_drewN | apply below_drew1) | exact HB.out)⟩
                    · exact absurd rfl c25
                  · rw [if_neg c24] at H
                    have c24b0 : decide (64 < (bx6_a0.size : Int)) = false := decide_eq_false c24
                    have c24b1 : decide (64 < bx6_a0.size) = false := decide_eq_false (by omega)
                    clear c24
                    by_cases c30 : a2 < 0
                    · rw [if_pos c30] at H
                      have c30b0 : decide (a2 < 0) = true := decide_eq_true c30
                      clear c30
                      by_cases c31 : (wrap64 (65 - (bx6_a0.size : Int))) = 0
                      · rw [if_pos c31] at H
                        exact absurd H (by simp)
                      · rw [if_neg c31] at H
                        have c31b0 : ((wrap64 (65 - (bx6_a0.size : Int))) == 0) = false := beq_eq_false_iff_ne.mpr c31
                        have c31b0q : ((65 - (bx6_a0.size : Int)) == 0) = false := by rw [← R.w65 bx6_a0.size hbx6_a0z]; exact c31b0
                        have c31p : ((65 - (bx6_a0.size : Int)) = 0) = False := eq_false (beq_eq_false_iff_ne.mp c31b0q)
                        have c31b1 : ((wrap64 (65 - (bx6_a0.size : Int))) != 0) = true := bne_iff_ne.mpr c31
                        have c31b1q : ((65 - (bx6_a0.size : Int)) != 0) = true := by rw [← R.w65 bx6_a0.size hbx6_a0z]; exact c31b1
                        by_cases c32 : true = true
                        · clear c32
                          have H1 : (if 0 ≤ (Int.tmod (wrap64 (-(wrap64 (a2 + 1)))) (wrap64 (65 - (bx6_a0.size : Int)))) then (if (Int.tmod (wrap64 (-(wrap64 (a2 + 1)))) (wrap64 (65 - (bx6_a0.size : Int))) : Int).toNat ≤ 281474976710656 then ((some (List.replicate (Int.tmod (wrap64 (-(wrap64 (a2 + 1)))) (wrap64 (65 - (bx6_a0.size : Int))) : Int).toNat 0 : List Int)).bind fun y140 => (if bx6_a0.size + (strOfNums y140).size ≤ 9223372036854775807 then ((Go.Proofs.Ytakbdknmfaoppaa.R.Mac.f (bx6_a0 ++ (strOfNums y140)) bx9_a1).bind fun t143 => (some (t143.toList == t136.toList))) else (none))) else (none)) else (none)) = some r := by first | (rw [if_pos rfl] at H; exact H) | (rw [if_pos trivial] at H; exact H)
                          clear H
                          have H := H1
                          clear H1
                          obtain ⟨ji33, hji33⟩ : ∃ j_ : Int, (Int.tmod (wrap64 (-(wrap64 (a2 + 1)))) (wrap64 (65 - (bx6_a0.size : Int)))) = j_ := ⟨_, rfl⟩
                          have hji33q : Int.tmod (wrap64 (-(wrap64 (a2 + 1)))) (65 - (bx6_a0.size : Int)) = ji33 := by rw [← hji33, R.w65 bx6_a0.size hbx6_a0z]
                          replace H : (if 0 ≤ (ji33) then (if (ji33 : Int).toNat ≤ 281474976710656 then ((some (List.replicate (ji33 : Int).toNat 0 : List Int)).bind fun y140 => (if bx6_a0.size + (strOfNums y140).size ≤ 9223372036854775807 then ((Go.Proofs.Ytakbdknmfaoppaa.R.Mac.f (bx6_a0 ++ (strOfNums y140)) bx9_a1).bind fun t143 => (some (t143.toList == t136.toList))) else (none))) else (none)) else (none)) = some r := by first | (rw [hji33] at H; exact H) | (simp only [hji33] at H ⊢; exact H)
                          by_cases c34 : 0 ≤ (ji33)
                          · rw [if_pos c34] at H
                            have c34b0 := eq_true c34
                            have c34b1 : decide (0 ≤ (ji33)) = true := decide_eq_true c34
                            clear c34
                            by_cases c35 : (ji33 : Int).toNat ≤ 281474976710656
                            · rw [if_pos c35] at H
                              have c35b0 := eq_true c35
                              have c35b1 : decide ((ji33 : Int).toNat ≤ 281474976710656) = true := decide_eq_true c35
                              clear c35
                              obtain ⟨y140, hy140⟩ : ∃ y_ : List Int, y_ = (List.replicate (ji33 : Int).toNat 0) := ⟨_, rfl⟩
                              replace H : (if bx6_a0.size + (strOfNums y140).size ≤ 9223372036854775807 then ((Go.Proofs.Ytakbdknmfaoppaa.R.Mac.f (bx6_a0 ++ (strOfNums y140)) bx9_a1).bind fun t143 => (some (t143.toList == t136.toList))) else (none)) = some r := by first | (rw [hy140]; with_reducible exact H) | (have H2_ := (Option.bind_some _ _).symm.trans H; rw [hy140]; with_reducible exact H2_) | (have H2_ := (Option.bind_some _ _).symm.trans H; with_reducible exact H2_) | with_reducible exact H | (rw [hy140]; exact H) | exact H
                              have Ny140 := Aside0.mk hy140
                              clear hy140
                              by_cases c36 : bx6_a0.size + (strOfNums y140).size ≤ 9223372036854775807
                              · rw [if_pos c36] at H
                                have c36b0 := eq_true c36
                                have c36b1 : decide (bx6_a0.size + (strOfNums y140).size ≤ 9223372036854775807) = true := decide_eq_true c36
                                try have c36b2 : (9223372036854775807 < bx6_a0.size + (strOfNums y140).size) = False := eq_false (Nat.not_lt.2 c36)
                                replace H := Option.bind_eq_some_iff.mp H
                                obtain ⟨t143, A370, H⟩ := H
                                replace H : (some (t143.toList == t136.toList)) = some r := H
                                have A37 := Aside0.mk A370
                                clear A370
                                obtain rfl := Option.some.inj H
                                go_wp2_with (first | ((with_reducible refine gate_dst (N := 62) rfl ?_); (try (refine gate_guard (by rfl) ?_; dsimp only)); refine Kd.R_make (Kd.int .u8) _ 5 rfl (N := 62) rfl 26 _ _ rfl ji33 rfl rfl Try.underlying26 (.int .u8 0) 1 info5 rfl (by decide) (by omega) 0 (ok := fun _ => True) (okp := fun _ => True) rfl (fun _ hk => hk) trivial (of_decide_eq_true (by first | (with_reducible assumption) | assumption)) (Nat.le_trans (Nat.mul_le_mul_right _ (of_decide_eq_true (by first | (with_reducible assumption) | assumption) : ji33.toNat ≤ 281474976710656)) (by omega)) (Below.refl _ _) (Nat.le_refl _) ?_; intro v141 w38 ho39 hb hg_ hnew_; clear hg_ hnew_; (first | rw [← Ny140.out] at ho39 | (simp only [Int.reduceToNat] at ho39; rw [← Ny140.out] at ho39)); have n0_ := Aside0.mk (Kd.R_lower ho39 (below_size (by repeat (first | (with_reducible first | exact HB.out | apply below_alloc | apply pw_below_drewN | apply below_drew1) | exact HB.out)))); have n1_ := Aside0.mk (below_step (by repeat (first | (with_reducible first | exact HB.out | apply below_alloc | apply pw_below_drewN | apply below_drew1) | exact HB.out)) hb); clear HB; have HO142 := n0_; have HB := n1_; clear n0_ n1_; clear hb ho39; have hcv40 := own_string (P := Try.prog) Try.underlying26 Try.underlying5 Try.underlying9 (Kd.own_of_R HO142.out)) | (go_at_call 19; (with_reducible refine (Go.Proofs.Ytakbdknmfaoppaa.R.Mac.calls (bx6_a0 ++ (strOfNums y140)) bx9_a1 t143 _ A37.out).mono ?_); rintro e w41 ⟨rfl, hb⟩; have n0_ := Aside0.mk (Kd.R_below (by (with_reducible repeat (first | apply Kd.R_alloc | apply Kd.R_drewN | apply Kd.R_drew)); exact HO142.out) hb); have n1_ := Aside0.mk (below_step (by repeat (first | (with_reducible first | exact HB.out | apply below_alloc | apply pw_below_drewN | apply below_drew1) | exact HB.out)) hb); clear HO142; clear HB; have HO142 := n0_; have HB := n1_; clear n0_ n1_; (try clear hb); (try clear hb2); (try clear hk); (try clear hi)))
                                go_ret
                                exact ⟨by first | rfl | (simp [errW_none, errW_some] <;> rfl) | (simp only [← hji6, ← hji9, ← hji33]; first | rfl | (simp [errW_none, errW_some] <;> rfl)) | (simp [*, errW_none, errW_some] <;> rfl), by repeat (first | (with_reducible first | exact HB.out | apply below_alloc | apply pw_below_drewN | apply below_drew1) | exact HB.out)⟩
                              · rw [if_neg c36] at H
                                exact absurd H (by simp)
                            · rw [if_neg c35] at H
                              exact absurd H (by simp)
                          · rw [if_neg c34] at H
                            exact absurd H (by simp)
                        · exact absurd rfl c32
                    · rw [if_neg c30] at H
                      have c30b0 : decide (a2 < 0) = false := decide_eq_false c30
                      clear c30
                      by_cases c42 : (wrap64 (65 - (bx6_a0.size : Int))) = 0
                      · rw [if_pos c42] at H
                        exact absurd H (by simp)
                      · rw [if_neg c42] at H
                        have c42b0 : ((wrap64 (65 - (bx6_a0.size : Int))) == 0) = false := beq_eq_false_iff_ne.mpr c42
                        have c42b0q : ((65 - (bx6_a0.size : Int)) == 0) = false := by rw [← R.w65 bx6_a0.size hbx6_a0z]; exact c42b0
                        have c42p : ((65 - (bx6_a0.size : Int)) = 0) = False := eq_false (beq_eq_false_iff_ne.mp c42b0q)
                        have c42b1 : ((wrap64 (65 - (bx6_a0.size : Int))) != 0) = true := bne_iff_ne.mpr c42
                        have c42b1q : ((65 - (bx6_a0.size : Int)) != 0) = true := by rw [← R.w65 bx6_a0.size hbx6_a0z]; exact c42b1
                        by_cases c43 : true = true
                        · clear c43
                          have H1 : (if 0 ≤ (Int.tmod a2 (wrap64 (65 - (bx6_a0.size : Int)))) then (if (Int.tmod a2 (wrap64 (65 - (bx6_a0.size : Int))) : Int).toNat ≤ 281474976710656 then ((some (List.replicate (Int.tmod a2 (wrap64 (65 - (bx6_a0.size : Int))) : Int).toNat 0 : List Int)).bind fun y144 => (if bx6_a0.size + (strOfNums y144).size ≤ 9223372036854775807 then ((Go.Proofs.Ytakbdknmfaoppaa.R.Mac.f (bx6_a0 ++ (strOfNums y144)) bx9_a1).bind fun t147 => (some (t147.toList == t136.toList))) else (none))) else (none)) else (none)) = some r := by first | (rw [if_pos rfl] at H; exact H) | (rw [if_pos trivial] at H; exact H)
                          clear H
                          have H := H1
                          clear H1
                          obtain ⟨ji44, hji44⟩ : ∃ j_ : Int, (Int.tmod a2 (wrap64 (65 - (bx6_a0.size : Int)))) = j_ := ⟨_, rfl⟩
                          have hji44q : Int.tmod a2 (65 - (bx6_a0.size : Int)) = ji44 := by rw [← hji44, R.w65 bx6_a0.size hbx6_a0z]
                          replace H : (if 0 ≤ (ji44) then (if (ji44 : Int).toNat ≤ 281474976710656 then ((some (List.replicate (ji44 : Int).toNat 0 : List Int)).bind fun y144 => (if bx6_a0.size + (strOfNums y144).size ≤ 9223372036854775807 then ((Go.Proofs.Ytakbdknmfaoppaa.R.Mac.f (bx6_a0 ++ (strOfNums y144)) bx9_a1).bind fun t147 => (some (t147.toList == t136.toList))) else (none))) else (none)) else (none)) = some r := by first | (rw [hji44] at H; exact H) | (simp only [hji44] at H ⊢; exact H)
                          by_cases c45 : 0 ≤ (ji44)
                          · rw [if_pos c45] at H
                            have c45b0 := eq_true c45
                            have c45b1 : decide (0 ≤ (ji44)) = true := decide_eq_true c45
                            clear c45
                            by_cases c46 : (ji44 : Int).toNat ≤ 281474976710656
                            · rw [if_pos c46] at H
                              have c46b0 := eq_true c46
                              have c46b1 : decide ((ji44 : Int).toNat ≤ 281474976710656) = true := decide_eq_true c46
                              clear c46
                              obtain ⟨y144, hy144⟩ : ∃ y_ : List Int, y_ = (List.replicate (ji44 : Int).toNat 0) := ⟨_, rfl⟩
                              replace H : (if bx6_a0.size + (strOfNums y144).size ≤ 9223372036854775807 then ((Go.Proofs.Ytakbdknmfaoppaa.R.Mac.f (bx6_a0 ++ (strOfNums y144)) bx9_a1).bind fun t147 => (some (t147.toList == t136.toList))) else (none)) = some r := by first | (rw [hy144]; with_reducible exact H) | (have H2_ := (Option.bind_some _ _).symm.trans H; rw [hy144]; with_reducible exact H2_) | (have H2_ := (Option.bind_some _ _).symm.trans H; with_reducible exact H2_) | with_reducible exact H | (rw [hy144]; exact H) | exact H
                              have Ny144 := Aside0.mk hy144
                              clear hy144
                              by_cases c47 : bx6_a0.size + (strOfNums y144).size ≤ 9223372036854775807
                              · rw [if_pos c47] at H
                                have c47b0 := eq_true c47
                                have c47b1 : decide (bx6_a0.size + (strOfNums y144).size ≤ 9223372036854775807) = true := decide_eq_true c47
                                try have c47b2 : (9223372036854775807 < bx6_a0.size + (strOfNums y144).size) = False := eq_false (Nat.not_lt.2 c47)
                                replace H := Option.bind_eq_some_iff.mp H
                                obtain ⟨t147, A480, H⟩ := H
                                replace H : (some (t147.toList == t136.toList)) = some r := H
                                have A48 := Aside0.mk A480
                                clear A480
                                obtain rfl := Option.some.inj H
                                go_wp2_with (first | ((with_reducible refine gate_dst (N := 62) rfl ?_); (try (refine gate_guard (by rfl) ?_; dsimp only)); refine Kd.R_make (Kd.int .u8) _ 5 rfl (N := 62) rfl 26 _ _ rfl ji44 rfl rfl Try.underlying26 (.int .u8 0) 1 info5 rfl (by decide) (by omega) 0 (ok := fun _ => True) (okp := fun _ => True) rfl (fun _ hk => hk) trivial (of_decide_eq_true (by first | (with_reducible assumption) | assumption)) (Nat.le_trans (Nat.mul_le_mul_right _ (of_decide_eq_true (by first | (with_reducible assumption) | assumption) : ji44.toNat ≤ 281474976710656)) (by omega)) (Below.refl _ _) (Nat.le_refl _) ?_; intro v145 w49 ho50 hb hg_ hnew_; clear hg_ hnew_; (first | rw [← Ny144.out] at ho50 | (simp only [Int.reduceToNat] at ho50; rw [← Ny144.out] at ho50)); have n0_ := Aside0.mk (Kd.R_lower ho50 (below_size (by repeat (first | (with_reducible first | exact HB.out | apply below_alloc | apply pw_below_drewN | apply below_drew1) | exact HB.out)))); have n1_ := Aside0.mk (below_step (by repeat (first | (with_reducible first | exact HB.out | apply below_alloc | apply pw_below_drewN | apply below_drew1) | exact HB.out)) hb); clear HB; have HO146 := n0_; have HB := n1_; clear n0_ n1_; clear hb ho50; have hcv51 := own_string (P := Try.prog) Try.underlying26 Try.underlying5 Try.underlying9 (Kd.own_of_R HO146.out)) | (go_at_call 19; (with_reducible refine (Go.Proofs.Ytakbdknmfaoppaa.R.Mac.calls (bx6_a0 ++ (strOfNums y144)) bx9_a1 t147 _ A48.out).mono ?_); rintro e w52 ⟨rfl, hb⟩; have n0_ := Aside0.mk (Kd.R_below (by (with_reducible repeat (first | apply Kd.R_alloc | apply Kd.R_drewN | apply Kd.R_drew)); exact HO146.out) hb); have n1_ := Aside0.mk (below_step (by repeat (first | (with_reducible first | exact HB.out | apply below_alloc | apply pw_below_drewN | apply below_drew1) | exact HB.out)) hb); clear HO146; clear HB; have HO146 := n0_; have HB := n1_; clear n0_ n1_; (try clear hb); (try clear hb2); (try clear hk); (try clear hi)))
                                go_ret
                                exact ⟨by first | rfl | (simp [errW_none, errW_some] <;> rfl) | (simp only [← hji6, ← hji9, ← hji44]; first | rfl | (simp [errW_none, errW_some] <;> rfl)) | (simp [*, errW_none, errW_some] <;> rfl), by repeat (first | (with_reducible first | exact HB.out | apply below_alloc | apply pw_below_drewN | apply below_drew1) | exact HB.out)⟩
                              · rw [if_neg c47] at H
                                exact absurd H (by simp)
                            · rw [if_neg c46] at H
                              exact absurd H (by simp)
                          · rw [if_neg c45] at H
                            exact absurd H (by simp)
                        · exact absurd rfl c43
          · rw [if_neg c11] at H
            exact absurd H (by simp)
        · rw [if_neg c10] at H
          exact absurd H (by simp)
      · rw [if_neg c8] at H
        exact absurd H (by simp)
    · rw [if_neg c7] at H
      exact absurd H (by simp)
  · replace c5 := Bool.eq_false_iff.mpr c5
    subst c5
    have H1 : (some false) = some r := by rw [if_neg (show ¬ (false = true) by decide)] at H; exact H
    clear H
    have H := H1
    clear H1
    obtain rfl := Option.some.inj H
    go_enter Try.func10, Try.ntmps10
    (try dsimp only [List.append])
    go_wp2_with (first | ((with_reducible refine gate_callee (f := 17) rfl ?_); refine goesL_ (some 9) rfl rfl Try.func17 (by kernel_rfl) rfl #[] rfl (by (try simp only [List.map_toArray, List.map_cons, List.map_nil]); first | done | rfl | (simp only [List.length_drop, List.length_take]; rfl)) ?_; (with_reducible refine (bailiwicklaw04_examples.calls k  false _ A4.out).mono ?_); rintro e w53 ⟨rfl, hb⟩; refine ⟨_, rfl, ?_⟩; have n0_ := Aside0.mk (below_step (by repeat (first | (with_reducible first | exact HB.out | apply below_alloc | apply pw_below_drewN | apply below_drew1) | exact HB.out)) hb); clear HB; have HB := n0_; clear n0_; (try clear hb); (try clear hb2); (try clear hk); (try clear hi)))
    go_ret
    exact ⟨by first | rfl | (simp [errW_none, errW_some] <;> rfl) | (simp [*, errW_none, errW_some] <;> rfl), by repeat (first | (with_reducible first | exact HB.out | apply below_alloc | apply pw_below_drewN | apply below_drew1) | exact HB.out)⟩

/-- THE ONE PURE STATEMENT of bailiwicklaw04_MacKeys: yours. -/
def bailiwicklaw04_MacKeys.Pure : Prop := ∀ (a0 : ByteArray) (a1 : ByteArray) (a2 : Int), a0.size ≤ 140737488351232 → a1.size ≤ 140737488351232 → (Lit.int .i64 a2).wf = true → ∃ k, bailiwicklaw04_MacKeys.f k a0 a1 a2 = some true
theorem bailiwicklaw04_MacKeys.walk (P : bailiwicklaw04_MacKeys.Pure) (a0 : ByteArray) (a1 : ByteArray) (a2 : Int) (w : World) (w0 : a0.size ≤ 140737488351232) (w1 : a1.size ≤ 140737488351232) (w2 : (Lit.int .i64 a2).wf = true) :
    Calls Try.prog 10 #[.string a0, .string a1, .int .i64 a2] w fun e w' => e = .returned (.bool true) ∧ Below w.heap.size w w' := by
  obtain ⟨k, h⟩ := P a0 a1 a2 w0 w1 w2
  refine (bailiwicklaw04_MacKeys.calls k a0 a1 a2 true w h).mono ?_
  rintro e w' ⟨rfl, hd⟩
  exact ⟨rfl, hd⟩

end Go.Proofs.Ytakbdknmfaoppaa.M
