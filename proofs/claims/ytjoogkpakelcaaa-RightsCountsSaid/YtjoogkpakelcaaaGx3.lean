-- Written by a program of this session (gp.py), which drives the print with some lines turned. Not trusted: Lean checks it.
import Derived.Test.YtjoogkpakelcaaaGx0
import Derived.Test.YtjoogkpakelcaaaGx1
import Derived.Test.YtjoogkpakelcaaaGx2
namespace Go.Proofs.Ytjoogkpakelcaaa.G
open Go.RowKit Go.Proofs.YtjoogkpakelcaaaW.PrintWords Go.Proofs.YtjoogkpakelcaaaW.PrintLast Go.Proofs.YtjoogkpakelcaaaW.PrintMore
attribute [local go_sem] max2_int min2_int max_two min_two max_three min_three max_four min_four emod_u8 emod_u16 emod_u32
set_option linter.unusedVariables false
set_option linter.unusedSimpArgs false

/-! ### bailiwicklaw05_RightsSets: function 6 -/
def bailiwicklaw05_RightsSets.f (k : Nat) (a0 : Int) (a1 : Int) : Option (Bool) := (bailiwicklaw05_examples.f k).bind fun t151 => (if t151 = true then ((rights_Sub.f a0 a1).bind fun t152 => ((bailiwickref05_Sub.f a0 a1).bind fun t153 => (if (t152 == t153) = true then ((rights_Cut.f a0 a1).bind fun t154 => ((bailiwickref05_Cut.f a0 a1).bind fun t155 => (if t154 = t155 then ((rights_Count.f a0).bind fun t156 => ((bailiwickref05_Count.f k a0).bind fun t157 => (some (t156 == t157)))) else (some false)))) else (some false)))) else (some false))
theorem bailiwicklaw05_RightsSets.mono : ∀ a0 a1 k, LeO (bailiwicklaw05_RightsSets.f k a0 a1) (bailiwicklaw05_RightsSets.f (k + 1) a0 a1) := by
  intro a0 a1 k
  unfold bailiwicklaw05_RightsSets.f
  repeat' first
      | (with_reducible exact bailiwicklaw05_examples.mono _)
      | (with_reducible exact bailiwickref05_Count.mono _ _)
      | (with_reducible exact LeO.refl _)
      | (with_reducible exact LeO.none _)
      | (with_reducible refine LeO.ite ?_ ?_)
      | (with_reducible refine LeO.bind ?_ (fun _ => ?_))
      | exact bailiwicklaw05_examples.mono _
      | exact bailiwickref05_Count.mono _ _
      | exact LeO.none _
      | refine LeO.ite ?_ ?_
      | refine LeO.bind ?_ (fun _ => ?_)
set_option maxHeartbeats 8000000 in
set_option maxRecDepth 100000 in
theorem bailiwicklaw05_RightsSets.calls (k : Nat) (a0 : Int) (a1 : Int) (r : Bool) (w : World) (h : bailiwicklaw05_RightsSets.f k a0 a1 = some r) :
    Calls Try.prog 6 #[.int .i64 a0, .int .i64 a1] w fun e w' => e = .returned (.bool r) ∧ Below w.heap.size w w' := by
  have HB := Aside0.mk (Below.refl w.heap.size w)
  have H : ((bailiwicklaw05_examples.f k).bind fun t151 => (if t151 = true then ((rights_Sub.f a0 a1).bind fun t152 => ((bailiwickref05_Sub.f a0 a1).bind fun t153 => (if (t152 == t153) = true then ((rights_Cut.f a0 a1).bind fun t154 => ((bailiwickref05_Cut.f a0 a1).bind fun t155 => (if t154 = t155 then ((rights_Count.f a0).bind fun t156 => ((bailiwickref05_Count.f k a0).bind fun t157 => (some (t156 == t157)))) else (some false)))) else (some false)))) else (some false))) = some r := h
  clear h
  replace H := Option.bind_eq_some_iff.mp H
  obtain ⟨t151, A30, H⟩ := H
  replace H : (if t151 = true then ((rights_Sub.f a0 a1).bind fun t152 => ((bailiwickref05_Sub.f a0 a1).bind fun t153 => (if (t152 == t153) = true then ((rights_Cut.f a0 a1).bind fun t154 => ((bailiwickref05_Cut.f a0 a1).bind fun t155 => (if t154 = t155 then ((rights_Count.f a0).bind fun t156 => ((bailiwickref05_Count.f k a0).bind fun t157 => (some (t156 == t157)))) else (some false)))) else (some false)))) else (some false)) = some r := H
  have A3 := Aside0.mk A30
  clear A30
  by_cases c4 : t151 = true
  · subst c4
    have H1 : ((rights_Sub.f a0 a1).bind fun t152 => ((bailiwickref05_Sub.f a0 a1).bind fun t153 => (if (t152 == t153) = true then ((rights_Cut.f a0 a1).bind fun t154 => ((bailiwickref05_Cut.f a0 a1).bind fun t155 => (if t154 = t155 then ((rights_Count.f a0).bind fun t156 => ((bailiwickref05_Count.f k a0).bind fun t157 => (some (t156 == t157)))) else (some false)))) else (some false)))) = some r := by first | (rw [if_pos rfl] at H; exact H) | (rw [if_pos trivial] at H; exact H)
    clear H
    have H := H1
    clear H1
    replace H := Option.bind_eq_some_iff.mp H
    obtain ⟨t152, A50, H⟩ := H
    replace H : ((bailiwickref05_Sub.f a0 a1).bind fun t153 => (if (t152 == t153) = true then ((rights_Cut.f a0 a1).bind fun t154 => ((bailiwickref05_Cut.f a0 a1).bind fun t155 => (if t154 = t155 then ((rights_Count.f a0).bind fun t156 => ((bailiwickref05_Count.f k a0).bind fun t157 => (some (t156 == t157)))) else (some false)))) else (some false))) = some r := H
    have A5 := Aside0.mk A50
    clear A50
    replace H := Option.bind_eq_some_iff.mp H
    obtain ⟨t153, A60, H⟩ := H
    replace H : (if (t152 == t153) = true then ((rights_Cut.f a0 a1).bind fun t154 => ((bailiwickref05_Cut.f a0 a1).bind fun t155 => (if t154 = t155 then ((rights_Count.f a0).bind fun t156 => ((bailiwickref05_Count.f k a0).bind fun t157 => (some (t156 == t157)))) else (some false)))) else (some false)) = some r := H
    have A6 := Aside0.mk A60
    clear A60
    by_cases c7 : (t152 == t153) = true
    · rw [if_pos c7] at H
      have c7b0 : (t152 == t153) = true := c7
      (try (have c7b1 : decide (t152 = t153) = true := by simpa using c7))
      (try (have c7b2 : (t152 == t153) = true := by simpa using c7))
      clear c7
      replace H := Option.bind_eq_some_iff.mp H
      obtain ⟨t154, A80, H⟩ := H
      replace H : ((bailiwickref05_Cut.f a0 a1).bind fun t155 => (if t154 = t155 then ((rights_Count.f a0).bind fun t156 => ((bailiwickref05_Count.f k a0).bind fun t157 => (some (t156 == t157)))) else (some false))) = some r := H
      have A8 := Aside0.mk A80
      clear A80
      replace H := Option.bind_eq_some_iff.mp H
      obtain ⟨t155, A90, H⟩ := H
      replace H : (if t154 = t155 then ((rights_Count.f a0).bind fun t156 => ((bailiwickref05_Count.f k a0).bind fun t157 => (some (t156 == t157)))) else (some false)) = some r := H
      have A9 := Aside0.mk A90
      clear A90
      by_cases c10 : t154 = t155
      · rw [if_pos c10] at H
        have c10b0 : (t154 == t155) = true := beq_iff_eq.mpr c10
        have c10b1 : (t154 != t155) = false := bne_eq_false_iff_eq.mpr c10
        clear c10
        replace H := Option.bind_eq_some_iff.mp H
        obtain ⟨t156, A110, H⟩ := H
        replace H : ((bailiwickref05_Count.f k a0).bind fun t157 => (some (t156 == t157))) = some r := H
        have A11 := Aside0.mk A110
        clear A110
        replace H := Option.bind_eq_some_iff.mp H
        obtain ⟨t157, A120, H⟩ := H
        replace H : (some (t156 == t157)) = some r := H
        have A12 := Aside0.mk A120
        clear A120
        obtain rfl := Option.some.inj H
        go_enter Try.func6, Try.ntmps6
        go_wp2_with (first | ((with_reducible refine gate_callee (f := 9) rfl ?_); refine goesL_ (some 6) rfl rfl Try.func9 (by kernel_rfl) rfl #[] rfl (by (try simp only [List.map_toArray, List.map_cons, List.map_nil]); first | done | rfl | (simp only [List.length_drop, List.length_take]; rfl)) ?_; (with_reducible refine (bailiwicklaw05_examples.calls k  true _ A3.out).mono ?_); rintro e w13 ⟨rfl, hb⟩; refine ⟨_, rfl, ?_⟩; have n0_ := Aside0.mk (below_step (by repeat (first | (with_reducible first | exact HB.out | apply below_alloc | apply pw_below_drewN | apply below_drew1) | exact HB.out)) hb); clear HB; have HB := n0_; clear n0_; (try clear hb); (try clear hb2); (try clear hk); (try clear hi)) | (go_at_call 15; (with_reducible refine (rights_Sub.calls a0 a1 t152 _ A5.out).mono ?_); rintro e w' ⟨rfl, ⟨nd, rfl⟩⟩) | (go_at_call 16; (with_reducible refine (bailiwickref05_Sub.calls a0 a1 t153 _ A6.out).mono ?_); rintro e w' ⟨rfl, ⟨nd, rfl⟩⟩) | (go_at_call 17; (with_reducible refine (rights_Cut.calls a0 a1 t154 _ A8.out).mono ?_); rintro e w' ⟨rfl, ⟨nd, rfl⟩⟩) | (go_at_call 18; (with_reducible refine (bailiwickref05_Cut.calls a0 a1 t155 _ A9.out).mono ?_); rintro e w' ⟨rfl, ⟨nd, rfl⟩⟩) | (go_at_call 14; (with_reducible refine (rights_Count.calls a0 t156 _ A11.out).mono ?_); rintro e w' ⟨rfl, ⟨nd, rfl⟩⟩) | (go_at_call 19; (with_reducible refine (bailiwickref05_Count.calls k a0 t157 _ A12.out).mono ?_); rintro e w' ⟨rfl, ⟨nd, rfl⟩⟩))
        go_ret
        exact ⟨by first | rfl | (simp [errW_none, errW_some] <;> rfl) | (simp [*, errW_none, errW_some] <;> rfl), by repeat (first | (with_reducible first | exact HB.out | apply below_alloc | apply pw_below_drewN | apply below_drew1) | exact HB.out)⟩
      · rw [if_neg c10] at H
        have c10b0 : (t154 == t155) = false := beq_eq_false_iff_ne.mpr c10
        have c10b1 : (t154 != t155) = true := bne_iff_ne.mpr c10
        obtain rfl := Option.some.inj H
        go_enter Try.func6, Try.ntmps6
        go_wp2_with (first | ((with_reducible refine gate_callee (f := 9) rfl ?_); refine goesL_ (some 6) rfl rfl Try.func9 (by kernel_rfl) rfl #[] rfl (by (try simp only [List.map_toArray, List.map_cons, List.map_nil]); first | done | rfl | (simp only [List.length_drop, List.length_take]; rfl)) ?_; (with_reducible refine (bailiwicklaw05_examples.calls k  true _ A3.out).mono ?_); rintro e w14 ⟨rfl, hb⟩; refine ⟨_, rfl, ?_⟩; have n0_ := Aside0.mk (below_step (by repeat (first | (with_reducible first | exact HB.out | apply below_alloc | apply pw_below_drewN | apply below_drew1) | exact HB.out)) hb); clear HB; have HB := n0_; clear n0_; (try clear hb); (try clear hb2); (try clear hk); (try clear hi)) | (go_at_call 15; (with_reducible refine (rights_Sub.calls a0 a1 t152 _ A5.out).mono ?_); rintro e w' ⟨rfl, ⟨nd, rfl⟩⟩) | (go_at_call 16; (with_reducible refine (bailiwickref05_Sub.calls a0 a1 t153 _ A6.out).mono ?_); rintro e w' ⟨rfl, ⟨nd, rfl⟩⟩) | (go_at_call 17; (with_reducible refine (rights_Cut.calls a0 a1 t154 _ A8.out).mono ?_); rintro e w' ⟨rfl, ⟨nd, rfl⟩⟩) | (go_at_call 18; (with_reducible refine (bailiwickref05_Cut.calls a0 a1 t155 _ A9.out).mono ?_); rintro e w' ⟨rfl, ⟨nd, rfl⟩⟩))
        go_ret
        exact ⟨by first | rfl | (simp [errW_none, errW_some] <;> rfl) | (simp [*, errW_none, errW_some] <;> rfl), by repeat (first | (with_reducible first | exact HB.out | apply below_alloc | apply pw_below_drewN | apply below_drew1) | exact HB.out)⟩
    · rw [if_neg c7] at H
      have c7b0 : (t152 == t153) = false := by simpa using c7
      (try (have c7b1 : decide (t152 = t153) = false := by simpa using c7))
      (try (have c7b2 : (t152 == t153) = false := by simpa using c7))
      (try (have c7b3 : ¬ (t152 = t153) := by simpa using c7))
      clear c7
      obtain rfl := Option.some.inj H
      go_enter Try.func6, Try.ntmps6
      go_wp2_with (first | ((with_reducible refine gate_callee (f := 9) rfl ?_); refine goesL_ (some 6) rfl rfl Try.func9 (by kernel_rfl) rfl #[] rfl (by (try simp only [List.map_toArray, List.map_cons, List.map_nil]); first | done | rfl | (simp only [List.length_drop, List.length_take]; rfl)) ?_; (with_reducible refine (bailiwicklaw05_examples.calls k  true _ A3.out).mono ?_); rintro e w15 ⟨rfl, hb⟩; refine ⟨_, rfl, ?_⟩; have n0_ := Aside0.mk (below_step (by repeat (first | (with_reducible first | exact HB.out | apply below_alloc | apply pw_below_drewN | apply below_drew1) | exact HB.out)) hb); clear HB; have HB := n0_; clear n0_; (try clear hb); (try clear hb2); (try clear hk); (try clear hi)) | (go_at_call 15; (with_reducible refine (rights_Sub.calls a0 a1 t152 _ A5.out).mono ?_); rintro e w' ⟨rfl, ⟨nd, rfl⟩⟩) | (go_at_call 16; (with_reducible refine (bailiwickref05_Sub.calls a0 a1 t153 _ A6.out).mono ?_); rintro e w' ⟨rfl, ⟨nd, rfl⟩⟩))
      go_ret
      exact ⟨by first | rfl | (simp [errW_none, errW_some] <;> rfl) | (simp [*, errW_none, errW_some] <;> rfl), by repeat (first | (with_reducible first | exact HB.out | apply below_alloc | apply pw_below_drewN | apply below_drew1) | exact HB.out)⟩
  · replace c4 := Bool.eq_false_iff.mpr c4
    subst c4
    have H1 : (some false) = some r := by rw [if_neg (show ¬ (false = true) by decide)] at H; exact H
    clear H
    have H := H1
    clear H1
    obtain rfl := Option.some.inj H
    go_enter Try.func6, Try.ntmps6
    go_wp2_with (first | ((with_reducible refine gate_callee (f := 9) rfl ?_); refine goesL_ (some 6) rfl rfl Try.func9 (by kernel_rfl) rfl #[] rfl (by (try simp only [List.map_toArray, List.map_cons, List.map_nil]); first | done | rfl | (simp only [List.length_drop, List.length_take]; rfl)) ?_; (with_reducible refine (bailiwicklaw05_examples.calls k  false _ A3.out).mono ?_); rintro e w16 ⟨rfl, hb⟩; refine ⟨_, rfl, ?_⟩; have n0_ := Aside0.mk (below_step (by repeat (first | (with_reducible first | exact HB.out | apply below_alloc | apply pw_below_drewN | apply below_drew1) | exact HB.out)) hb); clear HB; have HB := n0_; clear n0_; (try clear hb); (try clear hb2); (try clear hk); (try clear hi)))
    go_ret
    exact ⟨by first | rfl | (simp [errW_none, errW_some] <;> rfl) | (simp [*, errW_none, errW_some] <;> rfl), by repeat (first | (with_reducible first | exact HB.out | apply below_alloc | apply pw_below_drewN | apply below_drew1) | exact HB.out)⟩

/-- THE ONE PURE STATEMENT of bailiwicklaw05_RightsSets: yours. -/
def bailiwicklaw05_RightsSets.Pure : Prop := ∀ (a0 : Int) (a1 : Int), (Lit.int .i64 a0).wf = true → (Lit.int .i64 a1).wf = true → ∃ k, bailiwicklaw05_RightsSets.f k a0 a1 = some true
theorem bailiwicklaw05_RightsSets.walk (P : bailiwicklaw05_RightsSets.Pure) (a0 : Int) (a1 : Int) (w : World) (w0 : (Lit.int .i64 a0).wf = true) (w1 : (Lit.int .i64 a1).wf = true) :
    Calls Try.prog 6 #[.int .i64 a0, .int .i64 a1] w fun e w' => e = .returned (.bool true) ∧ Below w.heap.size w w' := by
  obtain ⟨k, h⟩ := P a0 a1 w0 w1
  refine (bailiwicklaw05_RightsSets.calls k a0 a1 true w h).mono ?_
  rintro e w' ⟨rfl, hd⟩
  exact ⟨rfl, hd⟩

/-! ### bailiwicklaw05_RightsCuts: function 7 -/
def bailiwicklaw05_RightsCuts.f (k : Nat) (a0 : Int) (a1 : Int) (a2 : Int) : Option (Bool) := (bailiwicklaw05_examples.f k).bind fun t158 => (if t158 = true then ((rights_Cut.f (wrap64 (a0)) (wrap64 (a1))).bind fun t159 => ((rights_Cut.f t159 (wrap64 (a2))).bind fun t160 => ((rights_Sub.f t159 (wrap64 (a0))).bind fun t161 => (if t161 = true then ((rights_Sub.f t159 (wrap64 (a1))).bind fun t162 => (if t162 = true then ((rights_Cut.f (wrap64 (a1)) (wrap64 (a0))).bind fun t163 => (if t159 = t163 then ((rights_Cut.f (wrap64 (a1)) (wrap64 (a2))).bind fun t164 => ((rights_Cut.f (wrap64 (a0)) t164).bind fun t165 => (if t160 = t165 then ((rights_Cut.f (wrap64 (a0)) (wrap64 (a0))).bind fun t166 => (if t166 = (wrap64 (a0)) then ((rights_Sub.f (wrap64 (a0)) (wrap64 (a0))).bind fun t167 => (if t167 = true then ((rights_Sub.f (wrap64 (a0)) (wrap64 (a1))).bind fun t168 => (if (t168 == (t159 == (wrap64 (a0)))) = true then ((rights_Count.f t159).bind fun t169 => ((rights_Count.f (wrap64 (a0))).bind fun t170 => (some (decide (t169 ≤ t170))))) else (some false))) else (some false))) else (some false))) else (some false)))) else (some false))) else (some false))) else (some false))))) else (some false))
theorem bailiwicklaw05_RightsCuts.mono : ∀ a0 a1 a2 k, LeO (bailiwicklaw05_RightsCuts.f k a0 a1 a2) (bailiwicklaw05_RightsCuts.f (k + 1) a0 a1 a2) := by
  intro a0 a1 a2 k
  unfold bailiwicklaw05_RightsCuts.f
  repeat' first
      | (with_reducible exact bailiwicklaw05_examples.mono _)
      | (with_reducible exact LeO.refl _)
      | (with_reducible exact LeO.none _)
      | (with_reducible refine LeO.ite ?_ ?_)
      | (with_reducible refine LeO.bind ?_ (fun _ => ?_))
      | exact bailiwicklaw05_examples.mono _
      | exact LeO.none _
      | refine LeO.ite ?_ ?_
      | refine LeO.bind ?_ (fun _ => ?_)
set_option maxHeartbeats 8000000 in
set_option maxRecDepth 100000 in
theorem bailiwicklaw05_RightsCuts.calls (k : Nat) (a0 : Int) (a1 : Int) (a2 : Int) (r : Bool) (w : World) (h : bailiwicklaw05_RightsCuts.f k a0 a1 a2 = some r) :
    Calls Try.prog 7 #[.int .u16 a0, .int .u16 a1, .int .u16 a2] w fun e w' => e = .returned (.bool r) ∧ Below w.heap.size w w' := by
  have HB := Aside0.mk (Below.refl w.heap.size w)
  have H : ((bailiwicklaw05_examples.f k).bind fun t158 => (if t158 = true then ((rights_Cut.f (wrap64 (a0)) (wrap64 (a1))).bind fun t159 => ((rights_Cut.f t159 (wrap64 (a2))).bind fun t160 => ((rights_Sub.f t159 (wrap64 (a0))).bind fun t161 => (if t161 = true then ((rights_Sub.f t159 (wrap64 (a1))).bind fun t162 => (if t162 = true then ((rights_Cut.f (wrap64 (a1)) (wrap64 (a0))).bind fun t163 => (if t159 = t163 then ((rights_Cut.f (wrap64 (a1)) (wrap64 (a2))).bind fun t164 => ((rights_Cut.f (wrap64 (a0)) t164).bind fun t165 => (if t160 = t165 then ((rights_Cut.f (wrap64 (a0)) (wrap64 (a0))).bind fun t166 => (if t166 = (wrap64 (a0)) then ((rights_Sub.f (wrap64 (a0)) (wrap64 (a0))).bind fun t167 => (if t167 = true then ((rights_Sub.f (wrap64 (a0)) (wrap64 (a1))).bind fun t168 => (if (t168 == (t159 == (wrap64 (a0)))) = true then ((rights_Count.f t159).bind fun t169 => ((rights_Count.f (wrap64 (a0))).bind fun t170 => (some (decide (t169 ≤ t170))))) else (some false))) else (some false))) else (some false))) else (some false)))) else (some false))) else (some false))) else (some false))))) else (some false))) = some r := h
  clear h
  replace H := Option.bind_eq_some_iff.mp H
  obtain ⟨t158, A40, H⟩ := H
  replace H : (if t158 = true then ((rights_Cut.f (wrap64 (a0)) (wrap64 (a1))).bind fun t159 => ((rights_Cut.f t159 (wrap64 (a2))).bind fun t160 => ((rights_Sub.f t159 (wrap64 (a0))).bind fun t161 => (if t161 = true then ((rights_Sub.f t159 (wrap64 (a1))).bind fun t162 => (if t162 = true then ((rights_Cut.f (wrap64 (a1)) (wrap64 (a0))).bind fun t163 => (if t159 = t163 then ((rights_Cut.f (wrap64 (a1)) (wrap64 (a2))).bind fun t164 => ((rights_Cut.f (wrap64 (a0)) t164).bind fun t165 => (if t160 = t165 then ((rights_Cut.f (wrap64 (a0)) (wrap64 (a0))).bind fun t166 => (if t166 = (wrap64 (a0)) then ((rights_Sub.f (wrap64 (a0)) (wrap64 (a0))).bind fun t167 => (if t167 = true then ((rights_Sub.f (wrap64 (a0)) (wrap64 (a1))).bind fun t168 => (if (t168 == (t159 == (wrap64 (a0)))) = true then ((rights_Count.f t159).bind fun t169 => ((rights_Count.f (wrap64 (a0))).bind fun t170 => (some (decide (t169 ≤ t170))))) else (some false))) else (some false))) else (some false))) else (some false)))) else (some false))) else (some false))) else (some false))))) else (some false)) = some r := H
  have A4 := Aside0.mk A40
  clear A40
  by_cases c5 : t158 = true
  · subst c5
    have H1 : ((rights_Cut.f (wrap64 (a0)) (wrap64 (a1))).bind fun t159 => ((rights_Cut.f t159 (wrap64 (a2))).bind fun t160 => ((rights_Sub.f t159 (wrap64 (a0))).bind fun t161 => (if t161 = true then ((rights_Sub.f t159 (wrap64 (a1))).bind fun t162 => (if t162 = true then ((rights_Cut.f (wrap64 (a1)) (wrap64 (a0))).bind fun t163 => (if t159 = t163 then ((rights_Cut.f (wrap64 (a1)) (wrap64 (a2))).bind fun t164 => ((rights_Cut.f (wrap64 (a0)) t164).bind fun t165 => (if t160 = t165 then ((rights_Cut.f (wrap64 (a0)) (wrap64 (a0))).bind fun t166 => (if t166 = (wrap64 (a0)) then ((rights_Sub.f (wrap64 (a0)) (wrap64 (a0))).bind fun t167 => (if t167 = true then ((rights_Sub.f (wrap64 (a0)) (wrap64 (a1))).bind fun t168 => (if (t168 == (t159 == (wrap64 (a0)))) = true then ((rights_Count.f t159).bind fun t169 => ((rights_Count.f (wrap64 (a0))).bind fun t170 => (some (decide (t169 ≤ t170))))) else (some false))) else (some false))) else (some false))) else (some false)))) else (some false))) else (some false))) else (some false))))) = some r := by first | (rw [if_pos rfl] at H; exact H) | (rw [if_pos trivial] at H; exact H)
    clear H
    have H := H1
    clear H1
    replace H := Option.bind_eq_some_iff.mp H
    obtain ⟨t159, A60, H⟩ := H
    replace H : ((rights_Cut.f t159 (wrap64 (a2))).bind fun t160 => ((rights_Sub.f t159 (wrap64 (a0))).bind fun t161 => (if t161 = true then ((rights_Sub.f t159 (wrap64 (a1))).bind fun t162 => (if t162 = true then ((rights_Cut.f (wrap64 (a1)) (wrap64 (a0))).bind fun t163 => (if t159 = t163 then ((rights_Cut.f (wrap64 (a1)) (wrap64 (a2))).bind fun t164 => ((rights_Cut.f (wrap64 (a0)) t164).bind fun t165 => (if t160 = t165 then ((rights_Cut.f (wrap64 (a0)) (wrap64 (a0))).bind fun t166 => (if t166 = (wrap64 (a0)) then ((rights_Sub.f (wrap64 (a0)) (wrap64 (a0))).bind fun t167 => (if t167 = true then ((rights_Sub.f (wrap64 (a0)) (wrap64 (a1))).bind fun t168 => (if (t168 == (t159 == (wrap64 (a0)))) = true then ((rights_Count.f t159).bind fun t169 => ((rights_Count.f (wrap64 (a0))).bind fun t170 => (some (decide (t169 ≤ t170))))) else (some false))) else (some false))) else (some false))) else (some false)))) else (some false))) else (some false))) else (some false)))) = some r := H
    have A6 := Aside0.mk A60
    clear A60
    replace H := Option.bind_eq_some_iff.mp H
    obtain ⟨t160, A70, H⟩ := H
    replace H : ((rights_Sub.f t159 (wrap64 (a0))).bind fun t161 => (if t161 = true then ((rights_Sub.f t159 (wrap64 (a1))).bind fun t162 => (if t162 = true then ((rights_Cut.f (wrap64 (a1)) (wrap64 (a0))).bind fun t163 => (if t159 = t163 then ((rights_Cut.f (wrap64 (a1)) (wrap64 (a2))).bind fun t164 => ((rights_Cut.f (wrap64 (a0)) t164).bind fun t165 => (if t160 = t165 then ((rights_Cut.f (wrap64 (a0)) (wrap64 (a0))).bind fun t166 => (if t166 = (wrap64 (a0)) then ((rights_Sub.f (wrap64 (a0)) (wrap64 (a0))).bind fun t167 => (if t167 = true then ((rights_Sub.f (wrap64 (a0)) (wrap64 (a1))).bind fun t168 => (if (t168 == (t159 == (wrap64 (a0)))) = true then ((rights_Count.f t159).bind fun t169 => ((rights_Count.f (wrap64 (a0))).bind fun t170 => (some (decide (t169 ≤ t170))))) else (some false))) else (some false))) else (some false))) else (some false)))) else (some false))) else (some false))) else (some false))) = some r := H
    have A7 := Aside0.mk A70
    clear A70
    replace H := Option.bind_eq_some_iff.mp H
    obtain ⟨t161, A80, H⟩ := H
    replace H : (if t161 = true then ((rights_Sub.f t159 (wrap64 (a1))).bind fun t162 => (if t162 = true then ((rights_Cut.f (wrap64 (a1)) (wrap64 (a0))).bind fun t163 => (if t159 = t163 then ((rights_Cut.f (wrap64 (a1)) (wrap64 (a2))).bind fun t164 => ((rights_Cut.f (wrap64 (a0)) t164).bind fun t165 => (if t160 = t165 then ((rights_Cut.f (wrap64 (a0)) (wrap64 (a0))).bind fun t166 => (if t166 = (wrap64 (a0)) then ((rights_Sub.f (wrap64 (a0)) (wrap64 (a0))).bind fun t167 => (if t167 = true then ((rights_Sub.f (wrap64 (a0)) (wrap64 (a1))).bind fun t168 => (if (t168 == (t159 == (wrap64 (a0)))) = true then ((rights_Count.f t159).bind fun t169 => ((rights_Count.f (wrap64 (a0))).bind fun t170 => (some (decide (t169 ≤ t170))))) else (some false))) else (some false))) else (some false))) else (some false)))) else (some false))) else (some false))) else (some false)) = some r := H
    have A8 := Aside0.mk A80
    clear A80
    by_cases c9 : t161 = true
    · subst c9
      have H1 : ((rights_Sub.f t159 (wrap64 (a1))).bind fun t162 => (if t162 = true then ((rights_Cut.f (wrap64 (a1)) (wrap64 (a0))).bind fun t163 => (if t159 = t163 then ((rights_Cut.f (wrap64 (a1)) (wrap64 (a2))).bind fun t164 => ((rights_Cut.f (wrap64 (a0)) t164).bind fun t165 => (if t160 = t165 then ((rights_Cut.f (wrap64 (a0)) (wrap64 (a0))).bind fun t166 => (if t166 = (wrap64 (a0)) then ((rights_Sub.f (wrap64 (a0)) (wrap64 (a0))).bind fun t167 => (if t167 = true then ((rights_Sub.f (wrap64 (a0)) (wrap64 (a1))).bind fun t168 => (if (t168 == (t159 == (wrap64 (a0)))) = true then ((rights_Count.f t159).bind fun t169 => ((rights_Count.f (wrap64 (a0))).bind fun t170 => (some (decide (t169 ≤ t170))))) else (some false))) else (some false))) else (some false))) else (some false)))) else (some false))) else (some false))) = some r := by first | (rw [if_pos rfl] at H; exact H) | (rw [if_pos trivial] at H; exact H)
      clear H
      have H := H1
      clear H1
      replace H := Option.bind_eq_some_iff.mp H
      obtain ⟨t162, A100, H⟩ := H
      replace H : (if t162 = true then ((rights_Cut.f (wrap64 (a1)) (wrap64 (a0))).bind fun t163 => (if t159 = t163 then ((rights_Cut.f (wrap64 (a1)) (wrap64 (a2))).bind fun t164 => ((rights_Cut.f (wrap64 (a0)) t164).bind fun t165 => (if t160 = t165 then ((rights_Cut.f (wrap64 (a0)) (wrap64 (a0))).bind fun t166 => (if t166 = (wrap64 (a0)) then ((rights_Sub.f (wrap64 (a0)) (wrap64 (a0))).bind fun t167 => (if t167 = true then ((rights_Sub.f (wrap64 (a0)) (wrap64 (a1))).bind fun t168 => (if (t168 == (t159 == (wrap64 (a0)))) = true then ((rights_Count.f t159).bind fun t169 => ((rights_Count.f (wrap64 (a0))).bind fun t170 => (some (decide (t169 ≤ t170))))) else (some false))) else (some false))) else (some false))) else (some false)))) else (some false))) else (some false)) = some r := H
      have A10 := Aside0.mk A100
      clear A100
      by_cases c11 : t162 = true
      · subst c11
        have H1 : ((rights_Cut.f (wrap64 (a1)) (wrap64 (a0))).bind fun t163 => (if t159 = t163 then ((rights_Cut.f (wrap64 (a1)) (wrap64 (a2))).bind fun t164 => ((rights_Cut.f (wrap64 (a0)) t164).bind fun t165 => (if t160 = t165 then ((rights_Cut.f (wrap64 (a0)) (wrap64 (a0))).bind fun t166 => (if t166 = (wrap64 (a0)) then ((rights_Sub.f (wrap64 (a0)) (wrap64 (a0))).bind fun t167 => (if t167 = true then ((rights_Sub.f (wrap64 (a0)) (wrap64 (a1))).bind fun t168 => (if (t168 == (t159 == (wrap64 (a0)))) = true then ((rights_Count.f t159).bind fun t169 => ((rights_Count.f (wrap64 (a0))).bind fun t170 => (some (decide (t169 ≤ t170))))) else (some false))) else (some false))) else (some false))) else (some false)))) else (some false))) = some r := by first | (rw [if_pos rfl] at H; exact H) | (rw [if_pos trivial] at H; exact H)
        clear H
        have H := H1
        clear H1
        replace H := Option.bind_eq_some_iff.mp H
        obtain ⟨t163, A120, H⟩ := H
        replace H : (if t159 = t163 then ((rights_Cut.f (wrap64 (a1)) (wrap64 (a2))).bind fun t164 => ((rights_Cut.f (wrap64 (a0)) t164).bind fun t165 => (if t160 = t165 then ((rights_Cut.f (wrap64 (a0)) (wrap64 (a0))).bind fun t166 => (if t166 = (wrap64 (a0)) then ((rights_Sub.f (wrap64 (a0)) (wrap64 (a0))).bind fun t167 => (if t167 = true then ((rights_Sub.f (wrap64 (a0)) (wrap64 (a1))).bind fun t168 => (if (t168 == (t159 == (wrap64 (a0)))) = true then ((rights_Count.f t159).bind fun t169 => ((rights_Count.f (wrap64 (a0))).bind fun t170 => (some (decide (t169 ≤ t170))))) else (some false))) else (some false))) else (some false))) else (some false)))) else (some false)) = some r := H
        have A12 := Aside0.mk A120
        clear A120
        by_cases c13 : t159 = t163
        · rw [if_pos c13] at H
          have c13b0 : (t159 == t163) = true := beq_iff_eq.mpr c13
          have c13b1 : (t159 != t163) = false := bne_eq_false_iff_eq.mpr c13
          clear c13
          replace H := Option.bind_eq_some_iff.mp H
          obtain ⟨t164, A140, H⟩ := H
          replace H : ((rights_Cut.f (wrap64 (a0)) t164).bind fun t165 => (if t160 = t165 then ((rights_Cut.f (wrap64 (a0)) (wrap64 (a0))).bind fun t166 => (if t166 = (wrap64 (a0)) then ((rights_Sub.f (wrap64 (a0)) (wrap64 (a0))).bind fun t167 => (if t167 = true then ((rights_Sub.f (wrap64 (a0)) (wrap64 (a1))).bind fun t168 => (if (t168 == (t159 == (wrap64 (a0)))) = true then ((rights_Count.f t159).bind fun t169 => ((rights_Count.f (wrap64 (a0))).bind fun t170 => (some (decide (t169 ≤ t170))))) else (some false))) else (some false))) else (some false))) else (some false))) = some r := H
          have A14 := Aside0.mk A140
          clear A140
          replace H := Option.bind_eq_some_iff.mp H
          obtain ⟨t165, A150, H⟩ := H
          replace H : (if t160 = t165 then ((rights_Cut.f (wrap64 (a0)) (wrap64 (a0))).bind fun t166 => (if t166 = (wrap64 (a0)) then ((rights_Sub.f (wrap64 (a0)) (wrap64 (a0))).bind fun t167 => (if t167 = true then ((rights_Sub.f (wrap64 (a0)) (wrap64 (a1))).bind fun t168 => (if (t168 == (t159 == (wrap64 (a0)))) = true then ((rights_Count.f t159).bind fun t169 => ((rights_Count.f (wrap64 (a0))).bind fun t170 => (some (decide (t169 ≤ t170))))) else (some false))) else (some false))) else (some false))) else (some false)) = some r := H
          have A15 := Aside0.mk A150
          clear A150
          by_cases c16 : t160 = t165
          · rw [if_pos c16] at H
            have c16b0 : (t160 == t165) = true := beq_iff_eq.mpr c16
            have c16b1 : (t160 != t165) = false := bne_eq_false_iff_eq.mpr c16
            clear c16
            replace H := Option.bind_eq_some_iff.mp H
            obtain ⟨t166, A170, H⟩ := H
            replace H : (if t166 = (wrap64 (a0)) then ((rights_Sub.f (wrap64 (a0)) (wrap64 (a0))).bind fun t167 => (if t167 = true then ((rights_Sub.f (wrap64 (a0)) (wrap64 (a1))).bind fun t168 => (if (t168 == (t159 == (wrap64 (a0)))) = true then ((rights_Count.f t159).bind fun t169 => ((rights_Count.f (wrap64 (a0))).bind fun t170 => (some (decide (t169 ≤ t170))))) else (some false))) else (some false))) else (some false)) = some r := H
            have A17 := Aside0.mk A170
            clear A170
            by_cases c18 : t166 = (wrap64 (a0))
            · rw [if_pos c18] at H
              have c18b0 : (t166 == (wrap64 (a0))) = true := beq_iff_eq.mpr c18
              have c18b1 : (t166 != (wrap64 (a0))) = false := bne_eq_false_iff_eq.mpr c18
              clear c18
              replace H := Option.bind_eq_some_iff.mp H
              obtain ⟨t167, A190, H⟩ := H
              replace H : (if t167 = true then ((rights_Sub.f (wrap64 (a0)) (wrap64 (a1))).bind fun t168 => (if (t168 == (t159 == (wrap64 (a0)))) = true then ((rights_Count.f t159).bind fun t169 => ((rights_Count.f (wrap64 (a0))).bind fun t170 => (some (decide (t169 ≤ t170))))) else (some false))) else (some false)) = some r := H
              have A19 := Aside0.mk A190
              clear A190
              by_cases c20 : t167 = true
              · subst c20
                have H1 : ((rights_Sub.f (wrap64 (a0)) (wrap64 (a1))).bind fun t168 => (if (t168 == (t159 == (wrap64 (a0)))) = true then ((rights_Count.f t159).bind fun t169 => ((rights_Count.f (wrap64 (a0))).bind fun t170 => (some (decide (t169 ≤ t170))))) else (some false))) = some r := by first | (rw [if_pos rfl] at H; exact H) | (rw [if_pos trivial] at H; exact H)
                clear H
                have H := H1
                clear H1
                replace H := Option.bind_eq_some_iff.mp H
                obtain ⟨t168, A210, H⟩ := H
                replace H : (if (t168 == (t159 == (wrap64 (a0)))) = true then ((rights_Count.f t159).bind fun t169 => ((rights_Count.f (wrap64 (a0))).bind fun t170 => (some (decide (t169 ≤ t170))))) else (some false)) = some r := H
                have A21 := Aside0.mk A210
                clear A210
                by_cases c22 : (t168 == (t159 == (wrap64 (a0)))) = true
                · rw [if_pos c22] at H
                  have c22b0 : (t168 == (t159 == (wrap64 (a0)))) = true := c22
                  (try (have c22b1 : decide (t168 = (t159 == (wrap64 (a0)))) = true := by simpa using c22))
                  (try (have c22b2 : (t168 == (t159 == (wrap64 (a0)))) = true := by simpa using c22))
                  clear c22
                  replace H := Option.bind_eq_some_iff.mp H
                  obtain ⟨t169, A230, H⟩ := H
                  replace H : ((rights_Count.f (wrap64 (a0))).bind fun t170 => (some (decide (t169 ≤ t170)))) = some r := H
                  have A23 := Aside0.mk A230
                  clear A230
                  replace H := Option.bind_eq_some_iff.mp H
                  obtain ⟨t170, A240, H⟩ := H
                  replace H : (some (decide (t169 ≤ t170))) = some r := H
                  have A24 := Aside0.mk A240
                  clear A240
                  obtain rfl := Option.some.inj H
                  go_enter Try.func7, Try.ntmps7
                  go_wp2_with (first | ((with_reducible refine gate_callee (f := 9) rfl ?_); refine goesL_ (some 13) rfl rfl Try.func9 (by kernel_rfl) rfl #[] rfl (by (try simp only [List.map_toArray, List.map_cons, List.map_nil]); first | done | rfl | (simp only [List.length_drop, List.length_take]; rfl)) ?_; (with_reducible refine (bailiwicklaw05_examples.calls k  true _ A4.out).mono ?_); rintro e w25 ⟨rfl, hb⟩; refine ⟨_, rfl, ?_⟩; have n0_ := Aside0.mk (below_step (by repeat (first | (with_reducible first | exact HB.out | apply below_alloc | apply pw_below_drewN | apply below_drew1) | exact HB.out)) hb); clear HB; have HB := n0_; clear n0_; (try clear hb); (try clear hb2); (try clear hk); (try clear hi)) | ((with_reducible refine gate_callee (f := 17) rfl ?_); refine goesL_ (some 24) rfl rfl Try.func17 (by kernel_rfl) rfl #[.int .i64 (wrap64 (a0)), .int .i64 (wrap64 (a1))] rfl (by (try simp only [List.map_toArray, List.map_cons, List.map_nil]); first | done | rfl | (simp only [List.length_drop, List.length_take]; rfl)) ?_; (with_reducible refine (rights_Cut.calls (wrap64 (a0)) (wrap64 (a1)) t159 _ A6.out).mono ?_); rintro e w' ⟨rfl, ⟨nd, rfl⟩⟩; refine ⟨_, rfl, ?_⟩) | ((with_reducible refine gate_callee (f := 17) rfl ?_); refine goesL_ (some 27) rfl rfl Try.func17 (by kernel_rfl) rfl #[.int .i64 t159, .int .i64 (wrap64 (a2))] rfl (by (try simp only [List.map_toArray, List.map_cons, List.map_nil]); first | done | rfl | (simp only [List.length_drop, List.length_take]; rfl)) ?_; (with_reducible refine (rights_Cut.calls t159 (wrap64 (a2)) t160 _ A7.out).mono ?_); rintro e w' ⟨rfl, ⟨nd, rfl⟩⟩; refine ⟨_, rfl, ?_⟩) | (go_at_call 15; (with_reducible refine (rights_Sub.calls t159 (wrap64 (a0)) true _ A8.out).mono ?_); rintro e w' ⟨rfl, ⟨nd, rfl⟩⟩) | (go_at_call 15; (with_reducible refine (rights_Sub.calls t159 (wrap64 (a1)) true _ A10.out).mono ?_); rintro e w' ⟨rfl, ⟨nd, rfl⟩⟩) | (go_at_call 17; (with_reducible refine (rights_Cut.calls (wrap64 (a1)) (wrap64 (a0)) t163 _ A12.out).mono ?_); rintro e w' ⟨rfl, ⟨nd, rfl⟩⟩) | (go_at_call 17; (with_reducible refine (rights_Cut.calls (wrap64 (a1)) (wrap64 (a2)) t164 _ A14.out).mono ?_); rintro e w' ⟨rfl, ⟨nd, rfl⟩⟩) | (go_at_call 17; (with_reducible refine (rights_Cut.calls (wrap64 (a0)) t164 t165 _ A15.out).mono ?_); rintro e w' ⟨rfl, ⟨nd, rfl⟩⟩) | (go_at_call 17; (with_reducible refine (rights_Cut.calls (wrap64 (a0)) (wrap64 (a0)) t166 _ A17.out).mono ?_); rintro e w' ⟨rfl, ⟨nd, rfl⟩⟩) | (go_at_call 15; (with_reducible refine (rights_Sub.calls (wrap64 (a0)) (wrap64 (a0)) true _ A19.out).mono ?_); rintro e w' ⟨rfl, ⟨nd, rfl⟩⟩) | (go_at_call 15; (with_reducible refine (rights_Sub.calls (wrap64 (a0)) (wrap64 (a1)) t168 _ A21.out).mono ?_); rintro e w' ⟨rfl, ⟨nd, rfl⟩⟩) | (go_at_call 14; (with_reducible refine (rights_Count.calls t159 t169 _ A23.out).mono ?_); rintro e w' ⟨rfl, ⟨nd, rfl⟩⟩) | (go_at_call 14; (with_reducible refine (rights_Count.calls (wrap64 (a0)) t170 _ A24.out).mono ?_); rintro e w' ⟨rfl, ⟨nd, rfl⟩⟩))
                  go_ret
                  exact ⟨by first | rfl | (simp [errW_none, errW_some] <;> rfl) | (simp [*, errW_none, errW_some] <;> rfl), by repeat (first | (with_reducible first | exact HB.out | apply below_alloc | apply pw_below_drewN | apply below_drew1) | exact HB.out)⟩
                · rw [if_neg c22] at H
                  have c22b0 : (t168 == (t159 == (wrap64 (a0)))) = false := by simpa using c22
                  (try (have c22b1 : decide (t168 = (t159 == (wrap64 (a0)))) = false := by simpa using c22))
                  (try (have c22b2 : (t168 == (t159 == (wrap64 (a0)))) = false := by simpa using c22))
                  (try (have c22b3 : ¬ (t168 = (t159 == (wrap64 (a0)))) := by simpa using c22))
                  clear c22
                  obtain rfl := Option.some.inj H
                  go_enter Try.func7, Try.ntmps7
                  go_wp2_with (first | ((with_reducible refine gate_callee (f := 9) rfl ?_); refine goesL_ (some 13) rfl rfl Try.func9 (by kernel_rfl) rfl #[] rfl (by (try simp only [List.map_toArray, List.map_cons, List.map_nil]); first | done | rfl | (simp only [List.length_drop, List.length_take]; rfl)) ?_; (with_reducible refine (bailiwicklaw05_examples.calls k  true _ A4.out).mono ?_); rintro e w26 ⟨rfl, hb⟩; refine ⟨_, rfl, ?_⟩; have n0_ := Aside0.mk (below_step (by repeat (first | (with_reducible first | exact HB.out | apply below_alloc | apply pw_below_drewN | apply below_drew1) | exact HB.out)) hb); clear HB; have HB := n0_; clear n0_; (try clear hb); (try clear hb2); (try clear hk); (try clear hi)) | ((with_reducible refine gate_callee (f := 17) rfl ?_); refine goesL_ (some 24) rfl rfl Try.func17 (by kernel_rfl) rfl #[.int .i64 (wrap64 (a0)), .int .i64 (wrap64 (a1))] rfl (by (try simp only [List.map_toArray, List.map_cons, List.map_nil]); first | done | rfl | (simp only [List.length_drop, List.length_take]; rfl)) ?_; (with_reducible refine (rights_Cut.calls (wrap64 (a0)) (wrap64 (a1)) t159 _ A6.out).mono ?_); rintro e w' ⟨rfl, ⟨nd, rfl⟩⟩; refine ⟨_, rfl, ?_⟩) | ((with_reducible refine gate_callee (f := 17) rfl ?_); refine goesL_ (some 27) rfl rfl Try.func17 (by kernel_rfl) rfl #[.int .i64 t159, .int .i64 (wrap64 (a2))] rfl (by (try simp only [List.map_toArray, List.map_cons, List.map_nil]); first | done | rfl | (simp only [List.length_drop, List.length_take]; rfl)) ?_; (with_reducible refine (rights_Cut.calls t159 (wrap64 (a2)) t160 _ A7.out).mono ?_); rintro e w' ⟨rfl, ⟨nd, rfl⟩⟩; refine ⟨_, rfl, ?_⟩) | (go_at_call 15; (with_reducible refine (rights_Sub.calls t159 (wrap64 (a0)) true _ A8.out).mono ?_); rintro e w' ⟨rfl, ⟨nd, rfl⟩⟩) | (go_at_call 15; (with_reducible refine (rights_Sub.calls t159 (wrap64 (a1)) true _ A10.out).mono ?_); rintro e w' ⟨rfl, ⟨nd, rfl⟩⟩) | (go_at_call 17; (with_reducible refine (rights_Cut.calls (wrap64 (a1)) (wrap64 (a0)) t163 _ A12.out).mono ?_); rintro e w' ⟨rfl, ⟨nd, rfl⟩⟩) | (go_at_call 17; (with_reducible refine (rights_Cut.calls (wrap64 (a1)) (wrap64 (a2)) t164 _ A14.out).mono ?_); rintro e w' ⟨rfl, ⟨nd, rfl⟩⟩) | (go_at_call 17; (with_reducible refine (rights_Cut.calls (wrap64 (a0)) t164 t165 _ A15.out).mono ?_); rintro e w' ⟨rfl, ⟨nd, rfl⟩⟩) | (go_at_call 17; (with_reducible refine (rights_Cut.calls (wrap64 (a0)) (wrap64 (a0)) t166 _ A17.out).mono ?_); rintro e w' ⟨rfl, ⟨nd, rfl⟩⟩) | (go_at_call 15; (with_reducible refine (rights_Sub.calls (wrap64 (a0)) (wrap64 (a0)) true _ A19.out).mono ?_); rintro e w' ⟨rfl, ⟨nd, rfl⟩⟩) | (go_at_call 15; (with_reducible refine (rights_Sub.calls (wrap64 (a0)) (wrap64 (a1)) t168 _ A21.out).mono ?_); rintro e w' ⟨rfl, ⟨nd, rfl⟩⟩))
                  go_ret
                  exact ⟨by first | rfl | (simp [errW_none, errW_some] <;> rfl) | (simp [*, errW_none, errW_some] <;> rfl), by repeat (first | (with_reducible first | exact HB.out | apply below_alloc | apply pw_below_drewN | apply below_drew1) | exact HB.out)⟩
              · replace c20 := Bool.eq_false_iff.mpr c20
                subst c20
                have H1 : (some false) = some r := by rw [if_neg (show ¬ (false = true) by decide)] at H; exact H
                clear H
                have H := H1
                clear H1
                obtain rfl := Option.some.inj H
                go_enter Try.func7, Try.ntmps7
                go_wp2_with (first | ((with_reducible refine gate_callee (f := 9) rfl ?_); refine goesL_ (some 13) rfl rfl Try.func9 (by kernel_rfl) rfl #[] rfl (by (try simp only [List.map_toArray, List.map_cons, List.map_nil]); first | done | rfl | (simp only [List.length_drop, List.length_take]; rfl)) ?_; (with_reducible refine (bailiwicklaw05_examples.calls k  true _ A4.out).mono ?_); rintro e w27 ⟨rfl, hb⟩; refine ⟨_, rfl, ?_⟩; have n0_ := Aside0.mk (below_step (by repeat (first | (with_reducible first | exact HB.out | apply below_alloc | apply pw_below_drewN | apply below_drew1) | exact HB.out)) hb); clear HB; have HB := n0_; clear n0_; (try clear hb); (try clear hb2); (try clear hk); (try clear hi)) | ((with_reducible refine gate_callee (f := 17) rfl ?_); refine goesL_ (some 24) rfl rfl Try.func17 (by kernel_rfl) rfl #[.int .i64 (wrap64 (a0)), .int .i64 (wrap64 (a1))] rfl (by (try simp only [List.map_toArray, List.map_cons, List.map_nil]); first | done | rfl | (simp only [List.length_drop, List.length_take]; rfl)) ?_; (with_reducible refine (rights_Cut.calls (wrap64 (a0)) (wrap64 (a1)) t159 _ A6.out).mono ?_); rintro e w' ⟨rfl, ⟨nd, rfl⟩⟩; refine ⟨_, rfl, ?_⟩) | ((with_reducible refine gate_callee (f := 17) rfl ?_); refine goesL_ (some 27) rfl rfl Try.func17 (by kernel_rfl) rfl #[.int .i64 t159, .int .i64 (wrap64 (a2))] rfl (by (try simp only [List.map_toArray, List.map_cons, List.map_nil]); first | done | rfl | (simp only [List.length_drop, List.length_take]; rfl)) ?_; (with_reducible refine (rights_Cut.calls t159 (wrap64 (a2)) t160 _ A7.out).mono ?_); rintro e w' ⟨rfl, ⟨nd, rfl⟩⟩; refine ⟨_, rfl, ?_⟩) | (go_at_call 15; (with_reducible refine (rights_Sub.calls t159 (wrap64 (a0)) true _ A8.out).mono ?_); rintro e w' ⟨rfl, ⟨nd, rfl⟩⟩) | (go_at_call 15; (with_reducible refine (rights_Sub.calls t159 (wrap64 (a1)) true _ A10.out).mono ?_); rintro e w' ⟨rfl, ⟨nd, rfl⟩⟩) | (go_at_call 17; (with_reducible refine (rights_Cut.calls (wrap64 (a1)) (wrap64 (a0)) t163 _ A12.out).mono ?_); rintro e w' ⟨rfl, ⟨nd, rfl⟩⟩) | (go_at_call 17; (with_reducible refine (rights_Cut.calls (wrap64 (a1)) (wrap64 (a2)) t164 _ A14.out).mono ?_); rintro e w' ⟨rfl, ⟨nd, rfl⟩⟩) | (go_at_call 17; (with_reducible refine (rights_Cut.calls (wrap64 (a0)) t164 t165 _ A15.out).mono ?_); rintro e w' ⟨rfl, ⟨nd, rfl⟩⟩) | (go_at_call 17; (with_reducible refine (rights_Cut.calls (wrap64 (a0)) (wrap64 (a0)) t166 _ A17.out).mono ?_); rintro e w' ⟨rfl, ⟨nd, rfl⟩⟩) | (go_at_call 15; (with_reducible refine (rights_Sub.calls (wrap64 (a0)) (wrap64 (a0)) false _ A19.out).mono ?_); rintro e w' ⟨rfl, ⟨nd, rfl⟩⟩))
                go_ret
                exact ⟨by first | rfl | (simp [errW_none, errW_some] <;> rfl) | (simp [*, errW_none, errW_some] <;> rfl), by repeat (first | (with_reducible first | exact HB.out | apply below_alloc | apply pw_below_drewN | apply below_drew1) | exact HB.out)⟩
            · rw [if_neg c18] at H
              have c18b0 : (t166 == (wrap64 (a0))) = false := beq_eq_false_iff_ne.mpr c18
              have c18b1 : (t166 != (wrap64 (a0))) = true := bne_iff_ne.mpr c18
              obtain rfl := Option.some.inj H
              go_enter Try.func7, Try.ntmps7
              go_wp2_with (first | ((with_reducible refine gate_callee (f := 9) rfl ?_); refine goesL_ (some 13) rfl rfl Try.func9 (by kernel_rfl) rfl #[] rfl (by (try simp only [List.map_toArray, List.map_cons, List.map_nil]); first | done | rfl | (simp only [List.length_drop, List.length_take]; rfl)) ?_; (with_reducible refine (bailiwicklaw05_examples.calls k  true _ A4.out).mono ?_); rintro e w28 ⟨rfl, hb⟩; refine ⟨_, rfl, ?_⟩; have n0_ := Aside0.mk (below_step (by repeat (first | (with_reducible first | exact HB.out | apply below_alloc | apply pw_below_drewN | apply below_drew1) | exact HB.out)) hb); clear HB; have HB := n0_; clear n0_; (try clear hb); (try clear hb2); (try clear hk); (try clear hi)) | ((with_reducible refine gate_callee (f := 17) rfl ?_); refine goesL_ (some 24) rfl rfl Try.func17 (by kernel_rfl) rfl #[.int .i64 (wrap64 (a0)), .int .i64 (wrap64 (a1))] rfl (by (try simp only [List.map_toArray, List.map_cons, List.map_nil]); first | done | rfl | (simp only [List.length_drop, List.length_take]; rfl)) ?_; (with_reducible refine (rights_Cut.calls (wrap64 (a0)) (wrap64 (a1)) t159 _ A6.out).mono ?_); rintro e w' ⟨rfl, ⟨nd, rfl⟩⟩; refine ⟨_, rfl, ?_⟩) | ((with_reducible refine gate_callee (f := 17) rfl ?_); refine goesL_ (some 27) rfl rfl Try.func17 (by kernel_rfl) rfl #[.int .i64 t159, .int .i64 (wrap64 (a2))] rfl (by (try simp only [List.map_toArray, List.map_cons, List.map_nil]); first | done | rfl | (simp only [List.length_drop, List.length_take]; rfl)) ?_; (with_reducible refine (rights_Cut.calls t159 (wrap64 (a2)) t160 _ A7.out).mono ?_); rintro e w' ⟨rfl, ⟨nd, rfl⟩⟩; refine ⟨_, rfl, ?_⟩) | (go_at_call 15; (with_reducible refine (rights_Sub.calls t159 (wrap64 (a0)) true _ A8.out).mono ?_); rintro e w' ⟨rfl, ⟨nd, rfl⟩⟩) | (go_at_call 15; (with_reducible refine (rights_Sub.calls t159 (wrap64 (a1)) true _ A10.out).mono ?_); rintro e w' ⟨rfl, ⟨nd, rfl⟩⟩) | (go_at_call 17; (with_reducible refine (rights_Cut.calls (wrap64 (a1)) (wrap64 (a0)) t163 _ A12.out).mono ?_); rintro e w' ⟨rfl, ⟨nd, rfl⟩⟩) | (go_at_call 17; (with_reducible refine (rights_Cut.calls (wrap64 (a1)) (wrap64 (a2)) t164 _ A14.out).mono ?_); rintro e w' ⟨rfl, ⟨nd, rfl⟩⟩) | (go_at_call 17; (with_reducible refine (rights_Cut.calls (wrap64 (a0)) t164 t165 _ A15.out).mono ?_); rintro e w' ⟨rfl, ⟨nd, rfl⟩⟩) | (go_at_call 17; (with_reducible refine (rights_Cut.calls (wrap64 (a0)) (wrap64 (a0)) t166 _ A17.out).mono ?_); rintro e w' ⟨rfl, ⟨nd, rfl⟩⟩))
              go_ret
              exact ⟨by first | rfl | (simp [errW_none, errW_some] <;> rfl) | (simp [*, errW_none, errW_some] <;> rfl), by repeat (first | (with_reducible first | exact HB.out | apply below_alloc | apply pw_below_drewN | apply below_drew1) | exact HB.out)⟩
          · rw [if_neg c16] at H
            have c16b0 : (t160 == t165) = false := beq_eq_false_iff_ne.mpr c16
            have c16b1 : (t160 != t165) = true := bne_iff_ne.mpr c16
            obtain rfl := Option.some.inj H
            go_enter Try.func7, Try.ntmps7
            go_wp2_with (first | ((with_reducible refine gate_callee (f := 9) rfl ?_); refine goesL_ (some 13) rfl rfl Try.func9 (by kernel_rfl) rfl #[] rfl (by (try simp only [List.map_toArray, List.map_cons, List.map_nil]); first | done | rfl | (simp only [List.length_drop, List.length_take]; rfl)) ?_; (with_reducible refine (bailiwicklaw05_examples.calls k  true _ A4.out).mono ?_); rintro e w29 ⟨rfl, hb⟩; refine ⟨_, rfl, ?_⟩; have n0_ := Aside0.mk (below_step (by repeat (first | (with_reducible first | exact HB.out | apply below_alloc | apply pw_below_drewN | apply below_drew1) | exact HB.out)) hb); clear HB; have HB := n0_; clear n0_; (try clear hb); (try clear hb2); (try clear hk); (try clear hi)) | ((with_reducible refine gate_callee (f := 17) rfl ?_); refine goesL_ (some 24) rfl rfl Try.func17 (by kernel_rfl) rfl #[.int .i64 (wrap64 (a0)), .int .i64 (wrap64 (a1))] rfl (by (try simp only [List.map_toArray, List.map_cons, List.map_nil]); first | done | rfl | (simp only [List.length_drop, List.length_take]; rfl)) ?_; (with_reducible refine (rights_Cut.calls (wrap64 (a0)) (wrap64 (a1)) t159 _ A6.out).mono ?_); rintro e w' ⟨rfl, ⟨nd, rfl⟩⟩; refine ⟨_, rfl, ?_⟩) | ((with_reducible refine gate_callee (f := 17) rfl ?_); refine goesL_ (some 27) rfl rfl Try.func17 (by kernel_rfl) rfl #[.int .i64 t159, .int .i64 (wrap64 (a2))] rfl (by (try simp only [List.map_toArray, List.map_cons, List.map_nil]); first | done | rfl | (simp only [List.length_drop, List.length_take]; rfl)) ?_; (with_reducible refine (rights_Cut.calls t159 (wrap64 (a2)) t160 _ A7.out).mono ?_); rintro e w' ⟨rfl, ⟨nd, rfl⟩⟩; refine ⟨_, rfl, ?_⟩) | (go_at_call 15; (with_reducible refine (rights_Sub.calls t159 (wrap64 (a0)) true _ A8.out).mono ?_); rintro e w' ⟨rfl, ⟨nd, rfl⟩⟩) | (go_at_call 15; (with_reducible refine (rights_Sub.calls t159 (wrap64 (a1)) true _ A10.out).mono ?_); rintro e w' ⟨rfl, ⟨nd, rfl⟩⟩) | (go_at_call 17; (with_reducible refine (rights_Cut.calls (wrap64 (a1)) (wrap64 (a0)) t163 _ A12.out).mono ?_); rintro e w' ⟨rfl, ⟨nd, rfl⟩⟩) | (go_at_call 17; (with_reducible refine (rights_Cut.calls (wrap64 (a1)) (wrap64 (a2)) t164 _ A14.out).mono ?_); rintro e w' ⟨rfl, ⟨nd, rfl⟩⟩) | (go_at_call 17; (with_reducible refine (rights_Cut.calls (wrap64 (a0)) t164 t165 _ A15.out).mono ?_); rintro e w' ⟨rfl, ⟨nd, rfl⟩⟩))
            go_ret
            exact ⟨by first | rfl | (simp [errW_none, errW_some] <;> rfl) | (simp [*, errW_none, errW_some] <;> rfl), by repeat (first | (with_reducible first | exact HB.out | apply below_alloc | apply pw_below_drewN | apply below_drew1) | exact HB.out)⟩
        · rw [if_neg c13] at H
          have c13b0 : (t159 == t163) = false := beq_eq_false_iff_ne.mpr c13
          have c13b1 : (t159 != t163) = true := bne_iff_ne.mpr c13
          obtain rfl := Option.some.inj H
          go_enter Try.func7, Try.ntmps7
          go_wp2_with (first | ((with_reducible refine gate_callee (f := 9) rfl ?_); refine goesL_ (some 13) rfl rfl Try.func9 (by kernel_rfl) rfl #[] rfl (by (try simp only [List.map_toArray, List.map_cons, List.map_nil]); first | done | rfl | (simp only [List.length_drop, List.length_take]; rfl)) ?_; (with_reducible refine (bailiwicklaw05_examples.calls k  true _ A4.out).mono ?_); rintro e w30 ⟨rfl, hb⟩; refine ⟨_, rfl, ?_⟩; have n0_ := Aside0.mk (below_step (by repeat (first | (with_reducible first | exact HB.out | apply below_alloc | apply pw_below_drewN | apply below_drew1) | exact HB.out)) hb); clear HB; have HB := n0_; clear n0_; (try clear hb); (try clear hb2); (try clear hk); (try clear hi)) | ((with_reducible refine gate_callee (f := 17) rfl ?_); refine goesL_ (some 24) rfl rfl Try.func17 (by kernel_rfl) rfl #[.int .i64 (wrap64 (a0)), .int .i64 (wrap64 (a1))] rfl (by (try simp only [List.map_toArray, List.map_cons, List.map_nil]); first | done | rfl | (simp only [List.length_drop, List.length_take]; rfl)) ?_; (with_reducible refine (rights_Cut.calls (wrap64 (a0)) (wrap64 (a1)) t159 _ A6.out).mono ?_); rintro e w' ⟨rfl, ⟨nd, rfl⟩⟩; refine ⟨_, rfl, ?_⟩) | ((with_reducible refine gate_callee (f := 17) rfl ?_); refine goesL_ (some 27) rfl rfl Try.func17 (by kernel_rfl) rfl #[.int .i64 t159, .int .i64 (wrap64 (a2))] rfl (by (try simp only [List.map_toArray, List.map_cons, List.map_nil]); first | done | rfl | (simp only [List.length_drop, List.length_take]; rfl)) ?_; (with_reducible refine (rights_Cut.calls t159 (wrap64 (a2)) t160 _ A7.out).mono ?_); rintro e w' ⟨rfl, ⟨nd, rfl⟩⟩; refine ⟨_, rfl, ?_⟩) | (go_at_call 15; (with_reducible refine (rights_Sub.calls t159 (wrap64 (a0)) true _ A8.out).mono ?_); rintro e w' ⟨rfl, ⟨nd, rfl⟩⟩) | (go_at_call 15; (with_reducible refine (rights_Sub.calls t159 (wrap64 (a1)) true _ A10.out).mono ?_); rintro e w' ⟨rfl, ⟨nd, rfl⟩⟩) | (go_at_call 17; (with_reducible refine (rights_Cut.calls (wrap64 (a1)) (wrap64 (a0)) t163 _ A12.out).mono ?_); rintro e w' ⟨rfl, ⟨nd, rfl⟩⟩))
          go_ret
          exact ⟨by first | rfl | (simp [errW_none, errW_some] <;> rfl) | (simp [*, errW_none, errW_some] <;> rfl), by repeat (first | (with_reducible first | exact HB.out | apply below_alloc | apply pw_below_drewN | apply below_drew1) | exact HB.out)⟩
      · replace c11 := Bool.eq_false_iff.mpr c11
        subst c11
        have H1 : (some false) = some r := by rw [if_neg (show ¬ (false = true) by decide)] at H; exact H
        clear H
        have H := H1
        clear H1
        obtain rfl := Option.some.inj H
        go_enter Try.func7, Try.ntmps7
        go_wp2_with (first | ((with_reducible refine gate_callee (f := 9) rfl ?_); refine goesL_ (some 13) rfl rfl Try.func9 (by kernel_rfl) rfl #[] rfl (by (try simp only [List.map_toArray, List.map_cons, List.map_nil]); first | done | rfl | (simp only [List.length_drop, List.length_take]; rfl)) ?_; (with_reducible refine (bailiwicklaw05_examples.calls k  true _ A4.out).mono ?_); rintro e w31 ⟨rfl, hb⟩; refine ⟨_, rfl, ?_⟩; have n0_ := Aside0.mk (below_step (by repeat (first | (with_reducible first | exact HB.out | apply below_alloc | apply pw_below_drewN | apply below_drew1) | exact HB.out)) hb); clear HB; have HB := n0_; clear n0_; (try clear hb); (try clear hb2); (try clear hk); (try clear hi)) | ((with_reducible refine gate_callee (f := 17) rfl ?_); refine goesL_ (some 24) rfl rfl Try.func17 (by kernel_rfl) rfl #[.int .i64 (wrap64 (a0)), .int .i64 (wrap64 (a1))] rfl (by (try simp only [List.map_toArray, List.map_cons, List.map_nil]); first | done | rfl | (simp only [List.length_drop, List.length_take]; rfl)) ?_; (with_reducible refine (rights_Cut.calls (wrap64 (a0)) (wrap64 (a1)) t159 _ A6.out).mono ?_); rintro e w' ⟨rfl, ⟨nd, rfl⟩⟩; refine ⟨_, rfl, ?_⟩) | ((with_reducible refine gate_callee (f := 17) rfl ?_); refine goesL_ (some 27) rfl rfl Try.func17 (by kernel_rfl) rfl #[.int .i64 t159, .int .i64 (wrap64 (a2))] rfl (by (try simp only [List.map_toArray, List.map_cons, List.map_nil]); first | done | rfl | (simp only [List.length_drop, List.length_take]; rfl)) ?_; (with_reducible refine (rights_Cut.calls t159 (wrap64 (a2)) t160 _ A7.out).mono ?_); rintro e w' ⟨rfl, ⟨nd, rfl⟩⟩; refine ⟨_, rfl, ?_⟩) | (go_at_call 15; (with_reducible refine (rights_Sub.calls t159 (wrap64 (a0)) true _ A8.out).mono ?_); rintro e w' ⟨rfl, ⟨nd, rfl⟩⟩) | (go_at_call 15; (with_reducible refine (rights_Sub.calls t159 (wrap64 (a1)) false _ A10.out).mono ?_); rintro e w' ⟨rfl, ⟨nd, rfl⟩⟩))
        go_ret
        exact ⟨by first | rfl | (simp [errW_none, errW_some] <;> rfl) | (simp [*, errW_none, errW_some] <;> rfl), by repeat (first | (with_reducible first | exact HB.out | apply below_alloc | apply pw_below_drewN | apply below_drew1) | exact HB.out)⟩
    · replace c9 := Bool.eq_false_iff.mpr c9
      subst c9
      have H1 : (some false) = some r := by rw [if_neg (show ¬ (false = true) by decide)] at H; exact H
      clear H
      have H := H1
      clear H1
      obtain rfl := Option.some.inj H
      go_enter Try.func7, Try.ntmps7
      go_wp2_with (first | ((with_reducible refine gate_callee (f := 9) rfl ?_); refine goesL_ (some 13) rfl rfl Try.func9 (by kernel_rfl) rfl #[] rfl (by (try simp only [List.map_toArray, List.map_cons, List.map_nil]); first | done | rfl | (simp only [List.length_drop, List.length_take]; rfl)) ?_; (with_reducible refine (bailiwicklaw05_examples.calls k  true _ A4.out).mono ?_); rintro e w32 ⟨rfl, hb⟩; refine ⟨_, rfl, ?_⟩; have n0_ := Aside0.mk (below_step (by repeat (first | (with_reducible first | exact HB.out | apply below_alloc | apply pw_below_drewN | apply below_drew1) | exact HB.out)) hb); clear HB; have HB := n0_; clear n0_; (try clear hb); (try clear hb2); (try clear hk); (try clear hi)) | ((with_reducible refine gate_callee (f := 17) rfl ?_); refine goesL_ (some 24) rfl rfl Try.func17 (by kernel_rfl) rfl #[.int .i64 (wrap64 (a0)), .int .i64 (wrap64 (a1))] rfl (by (try simp only [List.map_toArray, List.map_cons, List.map_nil]); first | done | rfl | (simp only [List.length_drop, List.length_take]; rfl)) ?_; (with_reducible refine (rights_Cut.calls (wrap64 (a0)) (wrap64 (a1)) t159 _ A6.out).mono ?_); rintro e w' ⟨rfl, ⟨nd, rfl⟩⟩; refine ⟨_, rfl, ?_⟩) | ((with_reducible refine gate_callee (f := 17) rfl ?_); refine goesL_ (some 27) rfl rfl Try.func17 (by kernel_rfl) rfl #[.int .i64 t159, .int .i64 (wrap64 (a2))] rfl (by (try simp only [List.map_toArray, List.map_cons, List.map_nil]); first | done | rfl | (simp only [List.length_drop, List.length_take]; rfl)) ?_; (with_reducible refine (rights_Cut.calls t159 (wrap64 (a2)) t160 _ A7.out).mono ?_); rintro e w' ⟨rfl, ⟨nd, rfl⟩⟩; refine ⟨_, rfl, ?_⟩) | (go_at_call 15; (with_reducible refine (rights_Sub.calls t159 (wrap64 (a0)) false _ A8.out).mono ?_); rintro e w' ⟨rfl, ⟨nd, rfl⟩⟩))
      go_ret
      exact ⟨by first | rfl | (simp [errW_none, errW_some] <;> rfl) | (simp [*, errW_none, errW_some] <;> rfl), by repeat (first | (with_reducible first | exact HB.out | apply below_alloc | apply pw_below_drewN | apply below_drew1) | exact HB.out)⟩
  · replace c5 := Bool.eq_false_iff.mpr c5
    subst c5
    have H1 : (some false) = some r := by rw [if_neg (show ¬ (false = true) by decide)] at H; exact H
    clear H
    have H := H1
    clear H1
    obtain rfl := Option.some.inj H
    go_enter Try.func7, Try.ntmps7
    go_wp2_with (first | ((with_reducible refine gate_callee (f := 9) rfl ?_); refine goesL_ (some 13) rfl rfl Try.func9 (by kernel_rfl) rfl #[] rfl (by (try simp only [List.map_toArray, List.map_cons, List.map_nil]); first | done | rfl | (simp only [List.length_drop, List.length_take]; rfl)) ?_; (with_reducible refine (bailiwicklaw05_examples.calls k  false _ A4.out).mono ?_); rintro e w33 ⟨rfl, hb⟩; refine ⟨_, rfl, ?_⟩; have n0_ := Aside0.mk (below_step (by repeat (first | (with_reducible first | exact HB.out | apply below_alloc | apply pw_below_drewN | apply below_drew1) | exact HB.out)) hb); clear HB; have HB := n0_; clear n0_; (try clear hb); (try clear hb2); (try clear hk); (try clear hi)))
    go_ret
    exact ⟨by first | rfl | (simp [errW_none, errW_some] <;> rfl) | (simp [*, errW_none, errW_some] <;> rfl), by repeat (first | (with_reducible first | exact HB.out | apply below_alloc | apply pw_below_drewN | apply below_drew1) | exact HB.out)⟩

/-- THE ONE PURE STATEMENT of bailiwicklaw05_RightsCuts: yours. -/
def bailiwicklaw05_RightsCuts.Pure : Prop := ∀ (a0 : Int) (a1 : Int) (a2 : Int), (Lit.int .u16 a0).wf = true → (Lit.int .u16 a1).wf = true → (Lit.int .u16 a2).wf = true → ∃ k, bailiwicklaw05_RightsCuts.f k a0 a1 a2 = some true
theorem bailiwicklaw05_RightsCuts.walk (P : bailiwicklaw05_RightsCuts.Pure) (a0 : Int) (a1 : Int) (a2 : Int) (w : World) (w0 : (Lit.int .u16 a0).wf = true) (w1 : (Lit.int .u16 a1).wf = true) (w2 : (Lit.int .u16 a2).wf = true) :
    Calls Try.prog 7 #[.int .u16 a0, .int .u16 a1, .int .u16 a2] w fun e w' => e = .returned (.bool true) ∧ Below w.heap.size w w' := by
  obtain ⟨k, h⟩ := P a0 a1 a2 w0 w1 w2
  refine (bailiwicklaw05_RightsCuts.calls k a0 a1 a2 true w h).mono ?_
  rintro e w' ⟨rfl, hd⟩
  exact ⟨rfl, hd⟩

/-! ### bailiwicklaw05_RightsCounts: function 8 -/
def bailiwicklaw05_RightsCounts.j0 : Nat → Int → Bool → Int → Int → Bool → Option (Bool)
  | 0, _, _, _, _, _ => none
  | k + 1, x2, x7, x8, x9, x10 => if x7 = true then ((rights_Count.f x8).bind fun t172 => ((rights_Count.f x9).bind fun t173 => ((rights_Count.f (Go.bits .or .i64 x8 x9)).bind fun t174 => ((rights_Cut.f x8 x9).bind fun t175 => ((rights_Count.f t175).bind fun t176 => (if (wrap64 (t172 + t173)) = (wrap64 (t174 + t176)) then ((rights_Sub.f x8 (Go.bits .or .i64 x8 x9)).bind fun t177 => (if t177 = true then ((rights_Sub.f (Go.bits .or .i64 x8 x9) x8).bind fun t178 => ((rights_Sub.f x9 x8).bind fun t179 => (if (t178 == t179) = true then ((rights_Sub.f x2 x2).bind fun t180 => (if (t180 == x10) = true then (if x10 = true then (some true) else ((rights_Count.f x2).bind fun t181 => (if t181 = 0 then ((rights_Cut.f x2 x8).bind fun t182 => (if t182 = 0 then ((rights_Sub.f x8 x2).bind fun t183 => (some (!t183))) else (some false))) else (some false)))) else (some false))) else (some false)))) else (some false))) else (some false))))))) else (some false)
def bailiwicklaw05_RightsCounts.f (k : Nat) (a0 : Int) (a1 : Int) (a2 : Int) : Option (Bool) := (bailiwicklaw05_examples.f k).bind fun t171 => (if t171 = true then (if a2 ≥ 0 then (bailiwicklaw05_RightsCounts.j0 k a2 t171 (wrap64 (a0)) (wrap64 (a1)) (decide (a2 < 65536))) else (bailiwicklaw05_RightsCounts.j0 k a2 t171 (wrap64 (a0)) (wrap64 (a1)) false)) else (some false))
theorem bailiwicklaw05_RightsCounts.mono_l : ∀ k, (∀ y0 y1 y2 y3 y4, LeO (bailiwicklaw05_RightsCounts.j0 k y0 y1 y2 y3 y4) (bailiwicklaw05_RightsCounts.j0 (k + 1) y0 y1 y2 y3 y4))
  | 0 => fun _ _ _ _ _ r h => by simp [bailiwicklaw05_RightsCounts.j0] at h
  | k + 1 => by
    have ih0 := bailiwicklaw05_RightsCounts.mono_l k
    · intro y0 y1 y2 y3 y4
      unfold bailiwicklaw05_RightsCounts.j0
      repeat' first
      | (with_reducible exact ih0 _ _ _ _ _)
      | (with_reducible exact bailiwicklaw05_examples.mono _)
      | (with_reducible exact LeO.refl _)
      | (with_reducible exact LeO.none _)
      | (with_reducible refine LeO.ite ?_ ?_)
      | (with_reducible refine LeO.bind ?_ (fun _ => ?_))
      | exact ih0 _ _ _ _ _
      | exact bailiwicklaw05_examples.mono _
      | exact LeO.none _
      | refine LeO.ite ?_ ?_
      | refine LeO.bind ?_ (fun _ => ?_)
theorem bailiwicklaw05_RightsCounts.mono : ∀ a0 a1 a2 k, LeO (bailiwicklaw05_RightsCounts.f k a0 a1 a2) (bailiwicklaw05_RightsCounts.f (k + 1) a0 a1 a2) := by
  intro a0 a1 a2 k
  have ih0 := bailiwicklaw05_RightsCounts.mono_l k
  unfold bailiwicklaw05_RightsCounts.f
  repeat' first
      | (with_reducible exact ih0 _ _ _ _ _)
      | (with_reducible exact bailiwicklaw05_examples.mono _)
      | (with_reducible exact LeO.refl _)
      | (with_reducible exact LeO.none _)
      | (with_reducible refine LeO.ite ?_ ?_)
      | (with_reducible refine LeO.bind ?_ (fun _ => ?_))
      | exact ih0 _ _ _ _ _
      | exact bailiwicklaw05_examples.mono _
      | exact LeO.none _
      | refine LeO.ite ?_ ?_
      | refine LeO.bind ?_ (fun _ => ?_)
set_option maxHeartbeats 8000000 in
set_option maxRecDepth 100000 in
theorem bailiwicklaw05_RightsCounts.calls (k : Nat) (a0 : Int) (a1 : Int) (a2 : Int) (r : Bool) (w : World) (h : bailiwicklaw05_RightsCounts.f k a0 a1 a2 = some r) :
    Calls Try.prog 8 #[.int .u16 a0, .int .u16 a1, .int .i64 a2] w fun e w' => e = .returned (.bool r) ∧ Below w.heap.size w w' := by
  have HB := Aside0.mk (Below.refl w.heap.size w)
  have H : ((bailiwicklaw05_examples.f k).bind fun t171 => (if t171 = true then (if a2 ≥ 0 then (bailiwicklaw05_RightsCounts.j0 k a2 t171 (wrap64 (a0)) (wrap64 (a1)) (decide (a2 < 65536))) else (bailiwicklaw05_RightsCounts.j0 k a2 t171 (wrap64 (a0)) (wrap64 (a1)) false)) else (some false))) = some r := h
  clear h
  replace H := Option.bind_eq_some_iff.mp H
  obtain ⟨t171, A40, H⟩ := H
  replace H : (if t171 = true then (if a2 ≥ 0 then (bailiwicklaw05_RightsCounts.j0 k a2 t171 (wrap64 (a0)) (wrap64 (a1)) (decide (a2 < 65536))) else (bailiwicklaw05_RightsCounts.j0 k a2 t171 (wrap64 (a0)) (wrap64 (a1)) false)) else (some false)) = some r := H
  have A4 := Aside0.mk A40
  clear A40
  by_cases c5 : t171 = true
  · subst c5
    have H1 : (if a2 ≥ 0 then (bailiwicklaw05_RightsCounts.j0 k a2 true (wrap64 (a0)) (wrap64 (a1)) (decide (a2 < 65536))) else (bailiwicklaw05_RightsCounts.j0 k a2 true (wrap64 (a0)) (wrap64 (a1)) false)) = some r := by first | (rw [if_pos rfl] at H; exact H) | (rw [if_pos trivial] at H; exact H)
    clear H
    have H := H1
    clear H1
    have HC6 := Aside0.mk H
    clear H
    go_enter Try.func8, Try.ntmps8
    go_upto_region 6 with (first | ((with_reducible refine gate_callee (f := 9) rfl ?_); refine goesL_ (some 11) rfl rfl Try.func9 (by kernel_rfl) rfl #[] rfl (by (try simp only [List.map_toArray, List.map_cons, List.map_nil]); first | done | rfl | (simp only [List.length_drop, List.length_take]; rfl)) ?_; (with_reducible refine (bailiwicklaw05_examples.calls k  true _ A4.out).mono ?_); rintro e w7 ⟨rfl, hb⟩; refine ⟨_, rfl, ?_⟩; have n0_ := Aside0.mk (below_step (by repeat (first | (with_reducible first | exact HB.out | apply below_alloc | apply pw_below_drewN | apply below_drew1) | exact HB.out)) hb); clear HB; have HB := n0_; clear n0_; (try clear hb); (try clear hb2); (try clear hk); (try clear hi)))
    (try simp only [Act.put, List.setIfInBounds_toArray, List.set_cons_zero, List.set_cons_succ])
    go_cut [10] (fun v10 wc => ∃ (kq : Nat) (x10_5 : Bool), v10 = .bool x10_5 ∧ Aside0 (bailiwicklaw05_RightsCounts.j0 kq a2 true (wrap64 (a0)) (wrap64 (a1)) x10_5 = some r) ∧ Aside0 (kq ≤ k) ∧ Aside0 (Below w.heap.size w wc))
    case first =>
      have H := HC6.out
      clear HC6
      by_cases c8 : a2 ≥ 0
      · rw [if_pos c8] at H
        have c8b0 : decide (0 ≤ a2) = true := decide_eq_true c8
        clear c8
        (first | rw [c8b0] | (simp only [i64_w, i32_w]; rw [c8b0]) | skip)
        have H' := Aside0.mk H
        clear H
        go_wp2
        go_meet
        case rel => exact ⟨_, (decide (a2 < 65536)), (by first | rfl | (simp; done) | (simp [*]; done)), H', ⟨by first | omega | exact Nat.le_refl _⟩, ⟨by repeat (first | (with_reducible first | exact HB.out | apply below_alloc | apply pw_below_drewN | apply below_drew1) | exact HB.out)⟩⟩
      · rw [if_neg c8] at H
        have c8b0 : decide (0 ≤ a2) = false := decide_eq_false c8
        clear c8
        (first | rw [c8b0] | (simp only [i64_w, i32_w]; rw [c8b0]) | skip)
        have H' := Aside0.mk H
        clear H
        go_wp2
        go_meet
        case rel => exact ⟨_, (false), (by first | rfl | (simp; done) | (simp [*]; done)), H', ⟨by first | omega | exact Nat.le_refl _⟩, ⟨by repeat (first | (with_reducible first | exact HB.out | apply below_alloc | apply pw_below_drewN | apply below_drew1) | exact HB.out)⟩⟩
    case rest =>
      clear HC6
      try clear p2
      try clear c5
      try clear p6
      try clear c8
      try clear c8b0
      obtain ⟨kq, x10_5, rfl, HA, HJ5, HB⟩ := hcut
      cases kq with
      | zero => exact absurd HA.out (by simp [bailiwicklaw05_RightsCounts.j0])
      | succ kj5 =>
        have H := HA.out
        clear HA
        simp only [bailiwicklaw05_RightsCounts.j0] at H
        by_cases c9 : true = true
        · clear c9
          have H1 : ((rights_Count.f (wrap64 (a0))).bind fun t172 => ((rights_Count.f (wrap64 (a1))).bind fun t173 => ((rights_Count.f (Go.bits .or .i64 (wrap64 (a0)) (wrap64 (a1)))).bind fun t174 => ((rights_Cut.f (wrap64 (a0)) (wrap64 (a1))).bind fun t175 => ((rights_Count.f t175).bind fun t176 => (if (wrap64 (t172 + t173)) = (wrap64 (t174 + t176)) then ((rights_Sub.f (wrap64 (a0)) (Go.bits .or .i64 (wrap64 (a0)) (wrap64 (a1)))).bind fun t177 => (if t177 = true then ((rights_Sub.f (Go.bits .or .i64 (wrap64 (a0)) (wrap64 (a1))) (wrap64 (a0))).bind fun t178 => ((rights_Sub.f (wrap64 (a1)) (wrap64 (a0))).bind fun t179 => (if (t178 == t179) = true then ((rights_Sub.f a2 a2).bind fun t180 => (if (t180 == x10_5) = true then (if x10_5 = true then (some true) else ((rights_Count.f a2).bind fun t181 => (if t181 = 0 then ((rights_Cut.f a2 (wrap64 (a0))).bind fun t182 => (if t182 = 0 then ((rights_Sub.f (wrap64 (a0)) a2).bind fun t183 => (some (!t183))) else (some false))) else (some false)))) else (some false))) else (some false)))) else (some false))) else (some false))))))) = some r := by first | (rw [if_pos rfl] at H; exact H) | (rw [if_pos trivial] at H; exact H)
          clear H
          have H := H1
          clear H1
          replace H := Option.bind_eq_some_iff.mp H
          obtain ⟨t172, A100, H⟩ := H
          replace H : ((rights_Count.f (wrap64 (a1))).bind fun t173 => ((rights_Count.f (Go.bits .or .i64 (wrap64 (a0)) (wrap64 (a1)))).bind fun t174 => ((rights_Cut.f (wrap64 (a0)) (wrap64 (a1))).bind fun t175 => ((rights_Count.f t175).bind fun t176 => (if (wrap64 (t172 + t173)) = (wrap64 (t174 + t176)) then ((rights_Sub.f (wrap64 (a0)) (Go.bits .or .i64 (wrap64 (a0)) (wrap64 (a1)))).bind fun t177 => (if t177 = true then ((rights_Sub.f (Go.bits .or .i64 (wrap64 (a0)) (wrap64 (a1))) (wrap64 (a0))).bind fun t178 => ((rights_Sub.f (wrap64 (a1)) (wrap64 (a0))).bind fun t179 => (if (t178 == t179) = true then ((rights_Sub.f a2 a2).bind fun t180 => (if (t180 == x10_5) = true then (if x10_5 = true then (some true) else ((rights_Count.f a2).bind fun t181 => (if t181 = 0 then ((rights_Cut.f a2 (wrap64 (a0))).bind fun t182 => (if t182 = 0 then ((rights_Sub.f (wrap64 (a0)) a2).bind fun t183 => (some (!t183))) else (some false))) else (some false)))) else (some false))) else (some false)))) else (some false))) else (some false)))))) = some r := H
          have A10 := Aside0.mk A100
          clear A100
          replace H := Option.bind_eq_some_iff.mp H
          obtain ⟨t173, A110, H⟩ := H
          replace H : ((rights_Count.f (Go.bits .or .i64 (wrap64 (a0)) (wrap64 (a1)))).bind fun t174 => ((rights_Cut.f (wrap64 (a0)) (wrap64 (a1))).bind fun t175 => ((rights_Count.f t175).bind fun t176 => (if (wrap64 (t172 + t173)) = (wrap64 (t174 + t176)) then ((rights_Sub.f (wrap64 (a0)) (Go.bits .or .i64 (wrap64 (a0)) (wrap64 (a1)))).bind fun t177 => (if t177 = true then ((rights_Sub.f (Go.bits .or .i64 (wrap64 (a0)) (wrap64 (a1))) (wrap64 (a0))).bind fun t178 => ((rights_Sub.f (wrap64 (a1)) (wrap64 (a0))).bind fun t179 => (if (t178 == t179) = true then ((rights_Sub.f a2 a2).bind fun t180 => (if (t180 == x10_5) = true then (if x10_5 = true then (some true) else ((rights_Count.f a2).bind fun t181 => (if t181 = 0 then ((rights_Cut.f a2 (wrap64 (a0))).bind fun t182 => (if t182 = 0 then ((rights_Sub.f (wrap64 (a0)) a2).bind fun t183 => (some (!t183))) else (some false))) else (some false)))) else (some false))) else (some false)))) else (some false))) else (some false))))) = some r := H
          have A11 := Aside0.mk A110
          clear A110
          replace H := Option.bind_eq_some_iff.mp H
          obtain ⟨t174, A120, H⟩ := H
          replace H : ((rights_Cut.f (wrap64 (a0)) (wrap64 (a1))).bind fun t175 => ((rights_Count.f t175).bind fun t176 => (if (wrap64 (t172 + t173)) = (wrap64 (t174 + t176)) then ((rights_Sub.f (wrap64 (a0)) (Go.bits .or .i64 (wrap64 (a0)) (wrap64 (a1)))).bind fun t177 => (if t177 = true then ((rights_Sub.f (Go.bits .or .i64 (wrap64 (a0)) (wrap64 (a1))) (wrap64 (a0))).bind fun t178 => ((rights_Sub.f (wrap64 (a1)) (wrap64 (a0))).bind fun t179 => (if (t178 == t179) = true then ((rights_Sub.f a2 a2).bind fun t180 => (if (t180 == x10_5) = true then (if x10_5 = true then (some true) else ((rights_Count.f a2).bind fun t181 => (if t181 = 0 then ((rights_Cut.f a2 (wrap64 (a0))).bind fun t182 => (if t182 = 0 then ((rights_Sub.f (wrap64 (a0)) a2).bind fun t183 => (some (!t183))) else (some false))) else (some false)))) else (some false))) else (some false)))) else (some false))) else (some false)))) = some r := H
          have A12 := Aside0.mk A120
          clear A120
          replace H := Option.bind_eq_some_iff.mp H
          obtain ⟨t175, A130, H⟩ := H
          replace H : ((rights_Count.f t175).bind fun t176 => (if (wrap64 (t172 + t173)) = (wrap64 (t174 + t176)) then ((rights_Sub.f (wrap64 (a0)) (Go.bits .or .i64 (wrap64 (a0)) (wrap64 (a1)))).bind fun t177 => (if t177 = true then ((rights_Sub.f (Go.bits .or .i64 (wrap64 (a0)) (wrap64 (a1))) (wrap64 (a0))).bind fun t178 => ((rights_Sub.f (wrap64 (a1)) (wrap64 (a0))).bind fun t179 => (if (t178 == t179) = true then ((rights_Sub.f a2 a2).bind fun t180 => (if (t180 == x10_5) = true then (if x10_5 = true then (some true) else ((rights_Count.f a2).bind fun t181 => (if t181 = 0 then ((rights_Cut.f a2 (wrap64 (a0))).bind fun t182 => (if t182 = 0 then ((rights_Sub.f (wrap64 (a0)) a2).bind fun t183 => (some (!t183))) else (some false))) else (some false)))) else (some false))) else (some false)))) else (some false))) else (some false))) = some r := H
          have A13 := Aside0.mk A130
          clear A130
          replace H := Option.bind_eq_some_iff.mp H
          obtain ⟨t176, A140, H⟩ := H
          replace H : (if (wrap64 (t172 + t173)) = (wrap64 (t174 + t176)) then ((rights_Sub.f (wrap64 (a0)) (Go.bits .or .i64 (wrap64 (a0)) (wrap64 (a1)))).bind fun t177 => (if t177 = true then ((rights_Sub.f (Go.bits .or .i64 (wrap64 (a0)) (wrap64 (a1))) (wrap64 (a0))).bind fun t178 => ((rights_Sub.f (wrap64 (a1)) (wrap64 (a0))).bind fun t179 => (if (t178 == t179) = true then ((rights_Sub.f a2 a2).bind fun t180 => (if (t180 == x10_5) = true then (if x10_5 = true then (some true) else ((rights_Count.f a2).bind fun t181 => (if t181 = 0 then ((rights_Cut.f a2 (wrap64 (a0))).bind fun t182 => (if t182 = 0 then ((rights_Sub.f (wrap64 (a0)) a2).bind fun t183 => (some (!t183))) else (some false))) else (some false)))) else (some false))) else (some false)))) else (some false))) else (some false)) = some r := H
          have A14 := Aside0.mk A140
          clear A140
          by_cases c15 : (wrap64 (t172 + t173)) = (wrap64 (t174 + t176))
          · rw [if_pos c15] at H
            have c15b0 : ((wrap64 (t172 + t173)) == (wrap64 (t174 + t176))) = true := beq_iff_eq.mpr c15
            have c15b1 : ((wrap64 (t172 + t173)) != (wrap64 (t174 + t176))) = false := bne_eq_false_iff_eq.mpr c15
            clear c15
            replace H := Option.bind_eq_some_iff.mp H
            obtain ⟨t177, A160, H⟩ := H
            replace H : (if t177 = true then ((rights_Sub.f (Go.bits .or .i64 (wrap64 (a0)) (wrap64 (a1))) (wrap64 (a0))).bind fun t178 => ((rights_Sub.f (wrap64 (a1)) (wrap64 (a0))).bind fun t179 => (if (t178 == t179) = true then ((rights_Sub.f a2 a2).bind fun t180 => (if (t180 == x10_5) = true then (if x10_5 = true then (some true) else ((rights_Count.f a2).bind fun t181 => (if t181 = 0 then ((rights_Cut.f a2 (wrap64 (a0))).bind fun t182 => (if t182 = 0 then ((rights_Sub.f (wrap64 (a0)) a2).bind fun t183 => (some (!t183))) else (some false))) else (some false)))) else (some false))) else (some false)))) else (some false)) = some r := H
            have A16 := Aside0.mk A160
            clear A160
            by_cases c17 : t177 = true
            · subst c17
              have H1 : ((rights_Sub.f (Go.bits .or .i64 (wrap64 (a0)) (wrap64 (a1))) (wrap64 (a0))).bind fun t178 => ((rights_Sub.f (wrap64 (a1)) (wrap64 (a0))).bind fun t179 => (if (t178 == t179) = true then ((rights_Sub.f a2 a2).bind fun t180 => (if (t180 == x10_5) = true then (if x10_5 = true then (some true) else ((rights_Count.f a2).bind fun t181 => (if t181 = 0 then ((rights_Cut.f a2 (wrap64 (a0))).bind fun t182 => (if t182 = 0 then ((rights_Sub.f (wrap64 (a0)) a2).bind fun t183 => (some (!t183))) else (some false))) else (some false)))) else (some false))) else (some false)))) = some r := by first | (rw [if_pos rfl] at H; exact H) | (rw [if_pos trivial] at H; exact H)
              clear H
              have H := H1
              clear H1
              replace H := Option.bind_eq_some_iff.mp H
              obtain ⟨t178, A180, H⟩ := H
              replace H : ((rights_Sub.f (wrap64 (a1)) (wrap64 (a0))).bind fun t179 => (if (t178 == t179) = true then ((rights_Sub.f a2 a2).bind fun t180 => (if (t180 == x10_5) = true then (if x10_5 = true then (some true) else ((rights_Count.f a2).bind fun t181 => (if t181 = 0 then ((rights_Cut.f a2 (wrap64 (a0))).bind fun t182 => (if t182 = 0 then ((rights_Sub.f (wrap64 (a0)) a2).bind fun t183 => (some (!t183))) else (some false))) else (some false)))) else (some false))) else (some false))) = some r := H
              have A18 := Aside0.mk A180
              clear A180
              replace H := Option.bind_eq_some_iff.mp H
              obtain ⟨t179, A190, H⟩ := H
              replace H : (if (t178 == t179) = true then ((rights_Sub.f a2 a2).bind fun t180 => (if (t180 == x10_5) = true then (if x10_5 = true then (some true) else ((rights_Count.f a2).bind fun t181 => (if t181 = 0 then ((rights_Cut.f a2 (wrap64 (a0))).bind fun t182 => (if t182 = 0 then ((rights_Sub.f (wrap64 (a0)) a2).bind fun t183 => (some (!t183))) else (some false))) else (some false)))) else (some false))) else (some false)) = some r := H
              have A19 := Aside0.mk A190
              clear A190
              by_cases c20 : (t178 == t179) = true
              · rw [if_pos c20] at H
                have c20b0 : (t178 == t179) = true := c20
                (try (have c20b1 : decide (t178 = t179) = true := by simpa using c20))
                (try (have c20b2 : (t178 == t179) = true := by simpa using c20))
                clear c20
                replace H := Option.bind_eq_some_iff.mp H
                obtain ⟨t180, A210, H⟩ := H
                replace H : (if (t180 == x10_5) = true then (if x10_5 = true then (some true) else ((rights_Count.f a2).bind fun t181 => (if t181 = 0 then ((rights_Cut.f a2 (wrap64 (a0))).bind fun t182 => (if t182 = 0 then ((rights_Sub.f (wrap64 (a0)) a2).bind fun t183 => (some (!t183))) else (some false))) else (some false)))) else (some false)) = some r := H
                have A21 := Aside0.mk A210
                clear A210
                by_cases c22 : (t180 == x10_5) = true
                · rw [if_pos c22] at H
                  have c22b0 : (t180 == x10_5) = true := c22
                  (try (have c22b1 : decide (t180 = x10_5) = true := by simpa using c22))
                  (try (have c22b2 : (t180 == x10_5) = true := by simpa using c22))
                  clear c22
                  by_cases c23 : x10_5 = true
                  · subst c23
                    have H1 : (some true) = some r := by first | (rw [if_pos rfl] at H; exact H) | (rw [if_pos trivial] at H; exact H)
                    clear H
                    have H := H1
                    clear H1
                    obtain rfl := Option.some.inj H
                    go_wp2_with (first | (go_at_call 14; (with_reducible refine (rights_Count.calls (wrap64 (a0)) t172 _ A10.out).mono ?_); rintro e w' ⟨rfl, ⟨nd, rfl⟩⟩) | (go_at_call 14; (with_reducible refine (rights_Count.calls (wrap64 (a1)) t173 _ A11.out).mono ?_); rintro e w' ⟨rfl, ⟨nd, rfl⟩⟩) | (go_at_call 14; (with_reducible refine (rights_Count.calls (Go.bits .or .i64 (wrap64 (a0)) (wrap64 (a1))) t174 _ A12.out).mono ?_); rintro e w' ⟨rfl, ⟨nd, rfl⟩⟩) | (go_at_call 17; (with_reducible refine (rights_Cut.calls (wrap64 (a0)) (wrap64 (a1)) t175 _ A13.out).mono ?_); rintro e w' ⟨rfl, ⟨nd, rfl⟩⟩) | (go_at_call 14; (with_reducible refine (rights_Count.calls t175 t176 _ A14.out).mono ?_); rintro e w' ⟨rfl, ⟨nd, rfl⟩⟩) | (go_at_call 15; (with_reducible refine (rights_Sub.calls (wrap64 (a0)) (Go.bits .or .i64 (wrap64 (a0)) (wrap64 (a1))) true _ A16.out).mono ?_); rintro e w' ⟨rfl, ⟨nd, rfl⟩⟩) | (go_at_call 15; (with_reducible refine (rights_Sub.calls (Go.bits .or .i64 (wrap64 (a0)) (wrap64 (a1))) (wrap64 (a0)) t178 _ A18.out).mono ?_); rintro e w' ⟨rfl, ⟨nd, rfl⟩⟩) | (go_at_call 15; (with_reducible refine (rights_Sub.calls (wrap64 (a1)) (wrap64 (a0)) t179 _ A19.out).mono ?_); rintro e w' ⟨rfl, ⟨nd, rfl⟩⟩) | (go_at_call 15; (with_reducible refine (rights_Sub.calls a2 a2 t180 _ A21.out).mono ?_); rintro e w' ⟨rfl, ⟨nd, rfl⟩⟩))
                    go_ret
                    exact ⟨by first | rfl | (simp [errW_none, errW_some] <;> rfl) | (simp [*, errW_none, errW_some] <;> rfl), by repeat (first | (with_reducible first | exact HB.out | apply below_alloc | apply pw_below_drewN | apply below_drew1) | exact HB.out)⟩
                  · replace c23 := Bool.eq_false_iff.mpr c23
                    subst c23
                    have H1 : ((rights_Count.f a2).bind fun t181 => (if t181 = 0 then ((rights_Cut.f a2 (wrap64 (a0))).bind fun t182 => (if t182 = 0 then ((rights_Sub.f (wrap64 (a0)) a2).bind fun t183 => (some (!t183))) else (some false))) else (some false))) = some r := by rw [if_neg (show ¬ (false = true) by decide)] at H; exact H
                    clear H
                    have H := H1
                    clear H1
                    replace H := Option.bind_eq_some_iff.mp H
                    obtain ⟨t181, A240, H⟩ := H
                    replace H : (if t181 = 0 then ((rights_Cut.f a2 (wrap64 (a0))).bind fun t182 => (if t182 = 0 then ((rights_Sub.f (wrap64 (a0)) a2).bind fun t183 => (some (!t183))) else (some false))) else (some false)) = some r := H
                    have A24 := Aside0.mk A240
                    clear A240
                    by_cases c25 : t181 = 0
                    · rw [if_pos c25] at H
                      have c25b0 : (t181 == 0) = true := beq_iff_eq.mpr c25
                      have c25b1 : (t181 != 0) = false := bne_eq_false_iff_eq.mpr c25
                      clear c25
                      replace H := Option.bind_eq_some_iff.mp H
                      obtain ⟨t182, A260, H⟩ := H
                      replace H : (if t182 = 0 then ((rights_Sub.f (wrap64 (a0)) a2).bind fun t183 => (some (!t183))) else (some false)) = some r := H
                      have A26 := Aside0.mk A260
                      clear A260
                      by_cases c27 : t182 = 0
                      · rw [if_pos c27] at H
                        have c27b0 : (t182 == 0) = true := beq_iff_eq.mpr c27
                        have c27b1 : (t182 != 0) = false := bne_eq_false_iff_eq.mpr c27
                        clear c27
                        replace H := Option.bind_eq_some_iff.mp H
                        obtain ⟨t183, A280, H⟩ := H
                        replace H : (some (!t183)) = some r := H
                        have A28 := Aside0.mk A280
                        clear A280
                        obtain rfl := Option.some.inj H
                        go_wp2_with (first | (go_at_call 14; (with_reducible refine (rights_Count.calls (wrap64 (a0)) t172 _ A10.out).mono ?_); rintro e w' ⟨rfl, ⟨nd, rfl⟩⟩) | (go_at_call 14; (with_reducible refine (rights_Count.calls (wrap64 (a1)) t173 _ A11.out).mono ?_); rintro e w' ⟨rfl, ⟨nd, rfl⟩⟩) | (go_at_call 14; (with_reducible refine (rights_Count.calls (Go.bits .or .i64 (wrap64 (a0)) (wrap64 (a1))) t174 _ A12.out).mono ?_); rintro e w' ⟨rfl, ⟨nd, rfl⟩⟩) | (go_at_call 17; (with_reducible refine (rights_Cut.calls (wrap64 (a0)) (wrap64 (a1)) t175 _ A13.out).mono ?_); rintro e w' ⟨rfl, ⟨nd, rfl⟩⟩) | (go_at_call 14; (with_reducible refine (rights_Count.calls t175 t176 _ A14.out).mono ?_); rintro e w' ⟨rfl, ⟨nd, rfl⟩⟩) | (go_at_call 15; (with_reducible refine (rights_Sub.calls (wrap64 (a0)) (Go.bits .or .i64 (wrap64 (a0)) (wrap64 (a1))) true _ A16.out).mono ?_); rintro e w' ⟨rfl, ⟨nd, rfl⟩⟩) | (go_at_call 15; (with_reducible refine (rights_Sub.calls (Go.bits .or .i64 (wrap64 (a0)) (wrap64 (a1))) (wrap64 (a0)) t178 _ A18.out).mono ?_); rintro e w' ⟨rfl, ⟨nd, rfl⟩⟩) | (go_at_call 15; (with_reducible refine (rights_Sub.calls (wrap64 (a1)) (wrap64 (a0)) t179 _ A19.out).mono ?_); rintro e w' ⟨rfl, ⟨nd, rfl⟩⟩) | (go_at_call 15; (with_reducible refine (rights_Sub.calls a2 a2 t180 _ A21.out).mono ?_); rintro e w' ⟨rfl, ⟨nd, rfl⟩⟩) | (go_at_call 14; (with_reducible refine (rights_Count.calls a2 t181 _ A24.out).mono ?_); rintro e w' ⟨rfl, ⟨nd, rfl⟩⟩) | (go_at_call 17; (with_reducible refine (rights_Cut.calls a2 (wrap64 (a0)) t182 _ A26.out).mono ?_); rintro e w' ⟨rfl, ⟨nd, rfl⟩⟩) | (go_at_call 15; (with_reducible refine (rights_Sub.calls (wrap64 (a0)) a2 t183 _ A28.out).mono ?_); rintro e w' ⟨rfl, ⟨nd, rfl⟩⟩))
                        go_ret
                        exact ⟨by first | rfl | (simp [errW_none, errW_some] <;> rfl) | (simp [*, errW_none, errW_some] <;> rfl), by repeat (first | (with_reducible first | exact HB.out | apply below_alloc | apply pw_below_drewN | apply below_drew1) | exact HB.out)⟩
                      · rw [if_neg c27] at H
                        have c27b0 : (t182 == 0) = false := beq_eq_false_iff_ne.mpr c27
                        have c27b1 : (t182 != 0) = true := bne_iff_ne.mpr c27
                        obtain rfl := Option.some.inj H
                        go_wp2_with (first | (go_at_call 14; (with_reducible refine (rights_Count.calls (wrap64 (a0)) t172 _ A10.out).mono ?_); rintro e w' ⟨rfl, ⟨nd, rfl⟩⟩) | (go_at_call 14; (with_reducible refine (rights_Count.calls (wrap64 (a1)) t173 _ A11.out).mono ?_); rintro e w' ⟨rfl, ⟨nd, rfl⟩⟩) | (go_at_call 14; (with_reducible refine (rights_Count.calls (Go.bits .or .i64 (wrap64 (a0)) (wrap64 (a1))) t174 _ A12.out).mono ?_); rintro e w' ⟨rfl, ⟨nd, rfl⟩⟩) | (go_at_call 17; (with_reducible refine (rights_Cut.calls (wrap64 (a0)) (wrap64 (a1)) t175 _ A13.out).mono ?_); rintro e w' ⟨rfl, ⟨nd, rfl⟩⟩) | (go_at_call 14; (with_reducible refine (rights_Count.calls t175 t176 _ A14.out).mono ?_); rintro e w' ⟨rfl, ⟨nd, rfl⟩⟩) | (go_at_call 15; (with_reducible refine (rights_Sub.calls (wrap64 (a0)) (Go.bits .or .i64 (wrap64 (a0)) (wrap64 (a1))) true _ A16.out).mono ?_); rintro e w' ⟨rfl, ⟨nd, rfl⟩⟩) | (go_at_call 15; (with_reducible refine (rights_Sub.calls (Go.bits .or .i64 (wrap64 (a0)) (wrap64 (a1))) (wrap64 (a0)) t178 _ A18.out).mono ?_); rintro e w' ⟨rfl, ⟨nd, rfl⟩⟩) | (go_at_call 15; (with_reducible refine (rights_Sub.calls (wrap64 (a1)) (wrap64 (a0)) t179 _ A19.out).mono ?_); rintro e w' ⟨rfl, ⟨nd, rfl⟩⟩) | (go_at_call 15; (with_reducible refine (rights_Sub.calls a2 a2 t180 _ A21.out).mono ?_); rintro e w' ⟨rfl, ⟨nd, rfl⟩⟩) | (go_at_call 14; (with_reducible refine (rights_Count.calls a2 t181 _ A24.out).mono ?_); rintro e w' ⟨rfl, ⟨nd, rfl⟩⟩) | (go_at_call 17; (with_reducible refine (rights_Cut.calls a2 (wrap64 (a0)) t182 _ A26.out).mono ?_); rintro e w' ⟨rfl, ⟨nd, rfl⟩⟩))
                        go_ret
                        exact ⟨by first | rfl | (simp [errW_none, errW_some] <;> rfl) | (simp [*, errW_none, errW_some] <;> rfl), by repeat (first | (with_reducible first | exact HB.out | apply below_alloc | apply pw_below_drewN | apply below_drew1) | exact HB.out)⟩
                    · rw [if_neg c25] at H
                      have c25b0 : (t181 == 0) = false := beq_eq_false_iff_ne.mpr c25
                      have c25b1 : (t181 != 0) = true := bne_iff_ne.mpr c25
                      obtain rfl := Option.some.inj H
                      go_wp2_with (first | (go_at_call 14; (with_reducible refine (rights_Count.calls (wrap64 (a0)) t172 _ A10.out).mono ?_); rintro e w' ⟨rfl, ⟨nd, rfl⟩⟩) | (go_at_call 14; (with_reducible refine (rights_Count.calls (wrap64 (a1)) t173 _ A11.out).mono ?_); rintro e w' ⟨rfl, ⟨nd, rfl⟩⟩) | (go_at_call 14; (with_reducible refine (rights_Count.calls (Go.bits .or .i64 (wrap64 (a0)) (wrap64 (a1))) t174 _ A12.out).mono ?_); rintro e w' ⟨rfl, ⟨nd, rfl⟩⟩) | (go_at_call 17; (with_reducible refine (rights_Cut.calls (wrap64 (a0)) (wrap64 (a1)) t175 _ A13.out).mono ?_); rintro e w' ⟨rfl, ⟨nd, rfl⟩⟩) | (go_at_call 14; (with_reducible refine (rights_Count.calls t175 t176 _ A14.out).mono ?_); rintro e w' ⟨rfl, ⟨nd, rfl⟩⟩) | (go_at_call 15; (with_reducible refine (rights_Sub.calls (wrap64 (a0)) (Go.bits .or .i64 (wrap64 (a0)) (wrap64 (a1))) true _ A16.out).mono ?_); rintro e w' ⟨rfl, ⟨nd, rfl⟩⟩) | (go_at_call 15; (with_reducible refine (rights_Sub.calls (Go.bits .or .i64 (wrap64 (a0)) (wrap64 (a1))) (wrap64 (a0)) t178 _ A18.out).mono ?_); rintro e w' ⟨rfl, ⟨nd, rfl⟩⟩) | (go_at_call 15; (with_reducible refine (rights_Sub.calls (wrap64 (a1)) (wrap64 (a0)) t179 _ A19.out).mono ?_); rintro e w' ⟨rfl, ⟨nd, rfl⟩⟩) | (go_at_call 15; (with_reducible refine (rights_Sub.calls a2 a2 t180 _ A21.out).mono ?_); rintro e w' ⟨rfl, ⟨nd, rfl⟩⟩) | (go_at_call 14; (with_reducible refine (rights_Count.calls a2 t181 _ A24.out).mono ?_); rintro e w' ⟨rfl, ⟨nd, rfl⟩⟩))
                      go_ret
                      exact ⟨by first | rfl | (simp [errW_none, errW_some] <;> rfl) | (simp [*, errW_none, errW_some] <;> rfl), by repeat (first | (with_reducible first | exact HB.out | apply below_alloc | apply pw_below_drewN | apply below_drew1) | exact HB.out)⟩
                · rw [if_neg c22] at H
                  have c22b0 : (t180 == x10_5) = false := by simpa using c22
                  (try (have c22b1 : decide (t180 = x10_5) = false := by simpa using c22))
                  (try (have c22b2 : (t180 == x10_5) = false := by simpa using c22))
                  (try (have c22b3 : ¬ (t180 = x10_5) := by simpa using c22))
                  clear c22
                  obtain rfl := Option.some.inj H
                  go_wp2_with (first | (go_at_call 14; (with_reducible refine (rights_Count.calls (wrap64 (a0)) t172 _ A10.out).mono ?_); rintro e w' ⟨rfl, ⟨nd, rfl⟩⟩) | (go_at_call 14; (with_reducible refine (rights_Count.calls (wrap64 (a1)) t173 _ A11.out).mono ?_); rintro e w' ⟨rfl, ⟨nd, rfl⟩⟩) | (go_at_call 14; (with_reducible refine (rights_Count.calls (Go.bits .or .i64 (wrap64 (a0)) (wrap64 (a1))) t174 _ A12.out).mono ?_); rintro e w' ⟨rfl, ⟨nd, rfl⟩⟩) | (go_at_call 17; (with_reducible refine (rights_Cut.calls (wrap64 (a0)) (wrap64 (a1)) t175 _ A13.out).mono ?_); rintro e w' ⟨rfl, ⟨nd, rfl⟩⟩) | (go_at_call 14; (with_reducible refine (rights_Count.calls t175 t176 _ A14.out).mono ?_); rintro e w' ⟨rfl, ⟨nd, rfl⟩⟩) | (go_at_call 15; (with_reducible refine (rights_Sub.calls (wrap64 (a0)) (Go.bits .or .i64 (wrap64 (a0)) (wrap64 (a1))) true _ A16.out).mono ?_); rintro e w' ⟨rfl, ⟨nd, rfl⟩⟩) | (go_at_call 15; (with_reducible refine (rights_Sub.calls (Go.bits .or .i64 (wrap64 (a0)) (wrap64 (a1))) (wrap64 (a0)) t178 _ A18.out).mono ?_); rintro e w' ⟨rfl, ⟨nd, rfl⟩⟩) | (go_at_call 15; (with_reducible refine (rights_Sub.calls (wrap64 (a1)) (wrap64 (a0)) t179 _ A19.out).mono ?_); rintro e w' ⟨rfl, ⟨nd, rfl⟩⟩) | (go_at_call 15; (with_reducible refine (rights_Sub.calls a2 a2 t180 _ A21.out).mono ?_); rintro e w' ⟨rfl, ⟨nd, rfl⟩⟩))
                  go_ret
                  exact ⟨by first | rfl | (simp [errW_none, errW_some] <;> rfl) | (simp [*, errW_none, errW_some] <;> rfl), by repeat (first | (with_reducible first | exact HB.out | apply below_alloc | apply pw_below_drewN | apply below_drew1) | exact HB.out)⟩
              · rw [if_neg c20] at H
                have c20b0 : (t178 == t179) = false := by simpa using c20
                (try (have c20b1 : decide (t178 = t179) = false := by simpa using c20))
                (try (have c20b2 : (t178 == t179) = false := by simpa using c20))
                (try (have c20b3 : ¬ (t178 = t179) := by simpa using c20))
                clear c20
                obtain rfl := Option.some.inj H
                go_wp2_with (first | (go_at_call 14; (with_reducible refine (rights_Count.calls (wrap64 (a0)) t172 _ A10.out).mono ?_); rintro e w' ⟨rfl, ⟨nd, rfl⟩⟩) | (go_at_call 14; (with_reducible refine (rights_Count.calls (wrap64 (a1)) t173 _ A11.out).mono ?_); rintro e w' ⟨rfl, ⟨nd, rfl⟩⟩) | (go_at_call 14; (with_reducible refine (rights_Count.calls (Go.bits .or .i64 (wrap64 (a0)) (wrap64 (a1))) t174 _ A12.out).mono ?_); rintro e w' ⟨rfl, ⟨nd, rfl⟩⟩) | (go_at_call 17; (with_reducible refine (rights_Cut.calls (wrap64 (a0)) (wrap64 (a1)) t175 _ A13.out).mono ?_); rintro e w' ⟨rfl, ⟨nd, rfl⟩⟩) | (go_at_call 14; (with_reducible refine (rights_Count.calls t175 t176 _ A14.out).mono ?_); rintro e w' ⟨rfl, ⟨nd, rfl⟩⟩) | (go_at_call 15; (with_reducible refine (rights_Sub.calls (wrap64 (a0)) (Go.bits .or .i64 (wrap64 (a0)) (wrap64 (a1))) true _ A16.out).mono ?_); rintro e w' ⟨rfl, ⟨nd, rfl⟩⟩) | (go_at_call 15; (with_reducible refine (rights_Sub.calls (Go.bits .or .i64 (wrap64 (a0)) (wrap64 (a1))) (wrap64 (a0)) t178 _ A18.out).mono ?_); rintro e w' ⟨rfl, ⟨nd, rfl⟩⟩) | (go_at_call 15; (with_reducible refine (rights_Sub.calls (wrap64 (a1)) (wrap64 (a0)) t179 _ A19.out).mono ?_); rintro e w' ⟨rfl, ⟨nd, rfl⟩⟩))
                go_ret
                exact ⟨by first | rfl | (simp [errW_none, errW_some] <;> rfl) | (simp [*, errW_none, errW_some] <;> rfl), by repeat (first | (with_reducible first | exact HB.out | apply below_alloc | apply pw_below_drewN | apply below_drew1) | exact HB.out)⟩
            · replace c17 := Bool.eq_false_iff.mpr c17
              subst c17
              have H1 : (some false) = some r := by rw [if_neg (show ¬ (false = true) by decide)] at H; exact H
              clear H
              have H := H1
              clear H1
              obtain rfl := Option.some.inj H
              go_wp2_with (first | (go_at_call 14; (with_reducible refine (rights_Count.calls (wrap64 (a0)) t172 _ A10.out).mono ?_); rintro e w' ⟨rfl, ⟨nd, rfl⟩⟩) | (go_at_call 14; (with_reducible refine (rights_Count.calls (wrap64 (a1)) t173 _ A11.out).mono ?_); rintro e w' ⟨rfl, ⟨nd, rfl⟩⟩) | (go_at_call 14; (with_reducible refine (rights_Count.calls (Go.bits .or .i64 (wrap64 (a0)) (wrap64 (a1))) t174 _ A12.out).mono ?_); rintro e w' ⟨rfl, ⟨nd, rfl⟩⟩) | (go_at_call 17; (with_reducible refine (rights_Cut.calls (wrap64 (a0)) (wrap64 (a1)) t175 _ A13.out).mono ?_); rintro e w' ⟨rfl, ⟨nd, rfl⟩⟩) | (go_at_call 14; (with_reducible refine (rights_Count.calls t175 t176 _ A14.out).mono ?_); rintro e w' ⟨rfl, ⟨nd, rfl⟩⟩) | (go_at_call 15; (with_reducible refine (rights_Sub.calls (wrap64 (a0)) (Go.bits .or .i64 (wrap64 (a0)) (wrap64 (a1))) false _ A16.out).mono ?_); rintro e w' ⟨rfl, ⟨nd, rfl⟩⟩))
              go_ret
              exact ⟨by first | rfl | (simp [errW_none, errW_some] <;> rfl) | (simp [*, errW_none, errW_some] <;> rfl), by repeat (first | (with_reducible first | exact HB.out | apply below_alloc | apply pw_below_drewN | apply below_drew1) | exact HB.out)⟩
          · rw [if_neg c15] at H
            have c15b0 : ((wrap64 (t172 + t173)) == (wrap64 (t174 + t176))) = false := beq_eq_false_iff_ne.mpr c15
            have c15b1 : ((wrap64 (t172 + t173)) != (wrap64 (t174 + t176))) = true := bne_iff_ne.mpr c15
            obtain rfl := Option.some.inj H
            go_wp2_with (first | (go_at_call 14; (with_reducible refine (rights_Count.calls (wrap64 (a0)) t172 _ A10.out).mono ?_); rintro e w' ⟨rfl, ⟨nd, rfl⟩⟩) | (go_at_call 14; (with_reducible refine (rights_Count.calls (wrap64 (a1)) t173 _ A11.out).mono ?_); rintro e w' ⟨rfl, ⟨nd, rfl⟩⟩) | (go_at_call 14; (with_reducible refine (rights_Count.calls (Go.bits .or .i64 (wrap64 (a0)) (wrap64 (a1))) t174 _ A12.out).mono ?_); rintro e w' ⟨rfl, ⟨nd, rfl⟩⟩) | (go_at_call 17; (with_reducible refine (rights_Cut.calls (wrap64 (a0)) (wrap64 (a1)) t175 _ A13.out).mono ?_); rintro e w' ⟨rfl, ⟨nd, rfl⟩⟩) | (go_at_call 14; (with_reducible refine (rights_Count.calls t175 t176 _ A14.out).mono ?_); rintro e w' ⟨rfl, ⟨nd, rfl⟩⟩))
            go_ret
            exact ⟨by first | rfl | (simp [errW_none, errW_some] <;> rfl) | (simp [*, errW_none, errW_some] <;> rfl), by repeat (first | (with_reducible first | exact HB.out | apply below_alloc | apply pw_below_drewN | apply below_drew1) | exact HB.out)⟩
        · exact absurd rfl c9
  · replace c5 := Bool.eq_false_iff.mpr c5
    subst c5
    have H1 : (some false) = some r := by rw [if_neg (show ¬ (false = true) by decide)] at H; exact H
    clear H
    have H := H1
    clear H1
    obtain rfl := Option.some.inj H
    go_enter Try.func8, Try.ntmps8
    go_wp2_with (first | ((with_reducible refine gate_callee (f := 9) rfl ?_); refine goesL_ (some 11) rfl rfl Try.func9 (by kernel_rfl) rfl #[] rfl (by (try simp only [List.map_toArray, List.map_cons, List.map_nil]); first | done | rfl | (simp only [List.length_drop, List.length_take]; rfl)) ?_; (with_reducible refine (bailiwicklaw05_examples.calls k  false _ A4.out).mono ?_); rintro e w29 ⟨rfl, hb⟩; refine ⟨_, rfl, ?_⟩; have n0_ := Aside0.mk (below_step (by repeat (first | (with_reducible first | exact HB.out | apply below_alloc | apply pw_below_drewN | apply below_drew1) | exact HB.out)) hb); clear HB; have HB := n0_; clear n0_; (try clear hb); (try clear hb2); (try clear hk); (try clear hi)))
    go_ret
    exact ⟨by first | rfl | (simp [errW_none, errW_some] <;> rfl) | (simp [*, errW_none, errW_some] <;> rfl), by repeat (first | (with_reducible first | exact HB.out | apply below_alloc | apply pw_below_drewN | apply below_drew1) | exact HB.out)⟩

/-- THE ONE PURE STATEMENT of bailiwicklaw05_RightsCounts: yours. -/
def bailiwicklaw05_RightsCounts.Pure : Prop := ∀ (a0 : Int) (a1 : Int) (a2 : Int), (Lit.int .u16 a0).wf = true → (Lit.int .u16 a1).wf = true → (Lit.int .i64 a2).wf = true → ∃ k, bailiwicklaw05_RightsCounts.f k a0 a1 a2 = some true
theorem bailiwicklaw05_RightsCounts.walk (P : bailiwicklaw05_RightsCounts.Pure) (a0 : Int) (a1 : Int) (a2 : Int) (w : World) (w0 : (Lit.int .u16 a0).wf = true) (w1 : (Lit.int .u16 a1).wf = true) (w2 : (Lit.int .i64 a2).wf = true) :
    Calls Try.prog 8 #[.int .u16 a0, .int .u16 a1, .int .i64 a2] w fun e w' => e = .returned (.bool true) ∧ Below w.heap.size w w' := by
  obtain ⟨k, h⟩ := P a0 a1 a2 w0 w1 w2
  refine (bailiwicklaw05_RightsCounts.calls k a0 a1 a2 true w h).mono ?_
  rintro e w' ⟨rfl, hd⟩
  exact ⟨rfl, hd⟩

end Go.Proofs.Ytjoogkpakelcaaa.G
