-- Written by a program of this session (gp.py), which drives the print with some lines turned. Not trusted: Lean checks it.
import Derived.Test.YtapfidadgafpbaaPx0
import Derived.Test.YtapfidadgafpbaaPx1
namespace Go.Proofs.Ytapfidadgafpbaa.P
open Go.RowKit Go.Proofs.YtapfidadgafpbaaW.PrintWords Go.Proofs.YtapfidadgafpbaaW.PrintLast Go.Proofs.YtapfidadgafpbaaW.PrintMore
attribute [local go_sem] max2_int min2_int max_two min_two max_three min_three max_four min_four emod_u8 emod_u16 emod_u32
set_option linter.unusedVariables false
set_option linter.unusedSimpArgs false

/-! ### rec_capRecord_right: function 33 -/
def rec_capRecord_right.j0 : Nat → Bool → Int → Int → Int → Int → Int → Int → Int → Int → Int → Bool → Option (Bool)
  | 0, _, _, _, _, _, _, _, _, _, _, _ => none
  | k + 1, x37, x117000, x117001, x117002, x117003, x117004, x117005, x117006, x117007, x117008, x117009 => if x37 = true then (some false) else ((rights_Sub.f x117004 x117004).bind fun t121 => (if t121 = true then ((rec_in.f x117005 0 4294967295).bind fun t122 => (if t122 = true then ((rec_in.f x117007 0 268435455).bind fun t123 => (if t123 = true then ((rec_in.f x117008 0 16777215).bind fun t124 => (if t124 = true then ((rec_in.f x117006 1 8).bind fun t125 => (if t125 = true then (some ((x117006 == 1) == (x117001 == 0))) else (some false))) else (some false))) else (some false))) else (some false))) else (some false)))
def rec_capRecord_right.f (k : Nat) (a0_0 : Int) (a0_1 : Int) (a0_2 : Int) (a0_3 : Int) (a0_4 : Int) (a0_5 : Int) (a0_6 : Int) (a0_7 : Int) (a0_8 : Int) (a0_9 : Bool) : Option (Bool) := (rec_in.f a0_0 1 16777215).bind fun t117 => (if t117 = true then ((rec_in.f a0_1 0 16777215).bind fun t118 => (if t118 = true then (if a0_1 = a0_0 then (rec_capRecord_right.j0 k true a0_0 a0_1 a0_2 a0_3 a0_4 a0_5 a0_6 a0_7 a0_8 a0_9) else ((rec_in.f a0_2 1 16777215).bind fun t119 => (if t119 = true then ((rec_in.f a0_3 1 16777215).bind fun t120 => (rec_capRecord_right.j0 k (!t120) a0_0 a0_1 a0_2 a0_3 a0_4 a0_5 a0_6 a0_7 a0_8 a0_9)) else (rec_capRecord_right.j0 k true a0_0 a0_1 a0_2 a0_3 a0_4 a0_5 a0_6 a0_7 a0_8 a0_9)))) else (rec_capRecord_right.j0 k true a0_0 a0_1 a0_2 a0_3 a0_4 a0_5 a0_6 a0_7 a0_8 a0_9))) else (rec_capRecord_right.j0 k true a0_0 a0_1 a0_2 a0_3 a0_4 a0_5 a0_6 a0_7 a0_8 a0_9))
theorem rec_capRecord_right.mono_l : ∀ k, (∀ y0 y1 y2 y3 y4 y5 y6 y7 y8 y9 y10, LeO (rec_capRecord_right.j0 k y0 y1 y2 y3 y4 y5 y6 y7 y8 y9 y10) (rec_capRecord_right.j0 (k + 1) y0 y1 y2 y3 y4 y5 y6 y7 y8 y9 y10))
  | 0 => fun _ _ _ _ _ _ _ _ _ _ _ r h => by simp [rec_capRecord_right.j0] at h
  | k + 1 => by
    have ih0 := rec_capRecord_right.mono_l k
    · intro y0 y1 y2 y3 y4 y5 y6 y7 y8 y9 y10
      unfold rec_capRecord_right.j0
      repeat' first
      | (with_reducible exact ih0 _ _ _ _ _ _ _ _ _ _ _)
      | (with_reducible exact LeO.refl _)
      | (with_reducible exact LeO.none _)
      | (with_reducible refine LeO.ite ?_ ?_)
      | (with_reducible refine LeO.bind ?_ (fun _ => ?_))
      | exact ih0 _ _ _ _ _ _ _ _ _ _ _
      | exact LeO.none _
      | refine LeO.ite ?_ ?_
      | refine LeO.bind ?_ (fun _ => ?_)
theorem rec_capRecord_right.mono : ∀ a0 a1 a2 a3 a4 a5 a6 a7 a8 a9 k, LeO (rec_capRecord_right.f k a0 a1 a2 a3 a4 a5 a6 a7 a8 a9) (rec_capRecord_right.f (k + 1) a0 a1 a2 a3 a4 a5 a6 a7 a8 a9) := by
  intro a0 a1 a2 a3 a4 a5 a6 a7 a8 a9 k
  have ih0 := rec_capRecord_right.mono_l k
  unfold rec_capRecord_right.f
  repeat' first
      | (with_reducible exact ih0 _ _ _ _ _ _ _ _ _ _ _)
      | (with_reducible exact LeO.refl _)
      | (with_reducible exact LeO.none _)
      | (with_reducible refine LeO.ite ?_ ?_)
      | (with_reducible refine LeO.bind ?_ (fun _ => ?_))
      | exact ih0 _ _ _ _ _ _ _ _ _ _ _
      | exact LeO.none _
      | refine LeO.ite ?_ ?_
      | refine LeO.bind ?_ (fun _ => ?_)
set_option maxHeartbeats 8000000 in
set_option maxRecDepth 100000 in
theorem rec_capRecord_right.calls (k : Nat) (a0_0 : Int) (a0_1 : Int) (a0_2 : Int) (a0_3 : Int) (a0_4 : Int) (a0_5 : Int) (a0_6 : Int) (a0_7 : Int) (a0_8 : Int) (a0_9 : Bool) (r : Bool) (w : World) (h : rec_capRecord_right.f k a0_0 a0_1 a0_2 a0_3 a0_4 a0_5 a0_6 a0_7 a0_8 a0_9 = some r) :
    Calls Try.prog 33 #[.agg #[.int .i64 a0_0, .int .i64 a0_1, .int .i64 a0_2, .int .i64 a0_3, .int .i64 a0_4, .int .i64 a0_5, .int .i64 a0_6, .int .i64 a0_7, .int .i64 a0_8, .bool a0_9]] w fun e w' => e = .returned (.bool r) ∧ Below w.heap.size w w' := by
  have hu75 := Try.underlying75
  have HB := Aside0.mk (Below.refl w.heap.size w)
  have H : ((rec_in.f a0_0 1 16777215).bind fun t117 => (if t117 = true then ((rec_in.f a0_1 0 16777215).bind fun t118 => (if t118 = true then (if a0_1 = a0_0 then (rec_capRecord_right.j0 k true a0_0 a0_1 a0_2 a0_3 a0_4 a0_5 a0_6 a0_7 a0_8 a0_9) else ((rec_in.f a0_2 1 16777215).bind fun t119 => (if t119 = true then ((rec_in.f a0_3 1 16777215).bind fun t120 => (rec_capRecord_right.j0 k (!t120) a0_0 a0_1 a0_2 a0_3 a0_4 a0_5 a0_6 a0_7 a0_8 a0_9)) else (rec_capRecord_right.j0 k true a0_0 a0_1 a0_2 a0_3 a0_4 a0_5 a0_6 a0_7 a0_8 a0_9)))) else (rec_capRecord_right.j0 k true a0_0 a0_1 a0_2 a0_3 a0_4 a0_5 a0_6 a0_7 a0_8 a0_9))) else (rec_capRecord_right.j0 k true a0_0 a0_1 a0_2 a0_3 a0_4 a0_5 a0_6 a0_7 a0_8 a0_9))) = some r := h
  clear h
  have HC2 := Aside0.mk H
  clear H
  go_enter Try.func33, Try.ntmps33
  go_upto_region 1 with (first | ((with_reducible refine gate_dst (N := 1) rfl ?_); refine box_event ?hg (N := 1) ?hd (cs := #[.int .i64 a0_0, .int .i64 a0_1, .int .i64 a0_2, .int .i64 a0_3, .int .i64 a0_4, .int .i64 a0_5, .int .i64 a0_6, .int .i64 a0_7, .int .i64 a0_8, .bool a0_9]) (t := 75) ?hr ?_; (case hd => rfl); (case hg => rfl); (case hr => first | (go_simp; done) | (go_simp; rfl)); intro gb116 hg w3 hbox hb; have n0_ := Aside0.mk (below_step (by repeat (first | (with_reducible first | exact HB.out | apply below_alloc | apply pw_below_drewN | apply below_drew1) | exact HB.out)) hb); have n1_ := Aside0.mk (hbox); have n2_ := Aside0.mk ((by rw [hg]; exact (below_size (by repeat (first | (with_reducible first | exact HB.out | apply below_alloc | apply pw_below_drewN | apply below_drew1) | exact HB.out))) : w.heap.size ≤ gb116)); have n3_ := Aside0.mk ((by rw [hg]; exact (below_size (by repeat (first | (with_reducible first | exact HB.out | apply below_alloc | apply pw_below_drewN | apply below_drew1) | exact HB.out))) : w.heap.size ≤ gb116)); clear HB; have HB := n0_; have BK116 := n1_; have GW116 := n2_; have GE116 := n3_; clear n0_ n1_ n2_ n3_; clear hb hbox hg))
  (try simp only [Act.put, List.setIfInBounds_toArray, List.set_cons_zero, List.set_cons_succ])
  go_cut [37] (fun v37 wc => ∃ (kq : Nat) (x37_1 : Bool), v37 = .bool x37_1 ∧ Aside0 (rec_capRecord_right.j0 kq x37_1 a0_0 a0_1 a0_2 a0_3 a0_4 a0_5 a0_6 a0_7 a0_8 a0_9 = some r) ∧ Aside0 (kq ≤ k) ∧ Aside0 (wc.heap[gb116]? = some (.cells #[.int .i64 a0_0, .int .i64 a0_1, .int .i64 a0_2, .int .i64 a0_3, .int .i64 a0_4, .int .i64 a0_5, .int .i64 a0_6, .int .i64 a0_7, .int .i64 a0_8, .bool a0_9] 75 (0, 0))) ∧ Aside0 (Below w.heap.size w wc))
  case first =>
    have H := HC2.out
    clear HC2
    replace H := Option.bind_eq_some_iff.mp H
    obtain ⟨t117, A40, H⟩ := H
    replace H : (if t117 = true then ((rec_in.f a0_1 0 16777215).bind fun t118 => (if t118 = true then (if a0_1 = a0_0 then (rec_capRecord_right.j0 k true a0_0 a0_1 a0_2 a0_3 a0_4 a0_5 a0_6 a0_7 a0_8 a0_9) else ((rec_in.f a0_2 1 16777215).bind fun t119 => (if t119 = true then ((rec_in.f a0_3 1 16777215).bind fun t120 => (rec_capRecord_right.j0 k (!t120) a0_0 a0_1 a0_2 a0_3 a0_4 a0_5 a0_6 a0_7 a0_8 a0_9)) else (rec_capRecord_right.j0 k true a0_0 a0_1 a0_2 a0_3 a0_4 a0_5 a0_6 a0_7 a0_8 a0_9)))) else (rec_capRecord_right.j0 k true a0_0 a0_1 a0_2 a0_3 a0_4 a0_5 a0_6 a0_7 a0_8 a0_9))) else (rec_capRecord_right.j0 k true a0_0 a0_1 a0_2 a0_3 a0_4 a0_5 a0_6 a0_7 a0_8 a0_9)) = some r := H
    have A4 := Aside0.mk A40
    clear A40
    by_cases c5 : t117 = true
    · subst c5
      have H1 : ((rec_in.f a0_1 0 16777215).bind fun t118 => (if t118 = true then (if a0_1 = a0_0 then (rec_capRecord_right.j0 k true a0_0 a0_1 a0_2 a0_3 a0_4 a0_5 a0_6 a0_7 a0_8 a0_9) else ((rec_in.f a0_2 1 16777215).bind fun t119 => (if t119 = true then ((rec_in.f a0_3 1 16777215).bind fun t120 => (rec_capRecord_right.j0 k (!t120) a0_0 a0_1 a0_2 a0_3 a0_4 a0_5 a0_6 a0_7 a0_8 a0_9)) else (rec_capRecord_right.j0 k true a0_0 a0_1 a0_2 a0_3 a0_4 a0_5 a0_6 a0_7 a0_8 a0_9)))) else (rec_capRecord_right.j0 k true a0_0 a0_1 a0_2 a0_3 a0_4 a0_5 a0_6 a0_7 a0_8 a0_9))) = some r := by rw [if_pos rfl] at H; exact H
      clear H
      have H := H1
      clear H1
      replace H := Option.bind_eq_some_iff.mp H
      obtain ⟨t118, A60, H⟩ := H
      replace H : (if t118 = true then (if a0_1 = a0_0 then (rec_capRecord_right.j0 k true a0_0 a0_1 a0_2 a0_3 a0_4 a0_5 a0_6 a0_7 a0_8 a0_9) else ((rec_in.f a0_2 1 16777215).bind fun t119 => (if t119 = true then ((rec_in.f a0_3 1 16777215).bind fun t120 => (rec_capRecord_right.j0 k (!t120) a0_0 a0_1 a0_2 a0_3 a0_4 a0_5 a0_6 a0_7 a0_8 a0_9)) else (rec_capRecord_right.j0 k true a0_0 a0_1 a0_2 a0_3 a0_4 a0_5 a0_6 a0_7 a0_8 a0_9)))) else (rec_capRecord_right.j0 k true a0_0 a0_1 a0_2 a0_3 a0_4 a0_5 a0_6 a0_7 a0_8 a0_9)) = some r := H
      have A6 := Aside0.mk A60
      clear A60
      by_cases c7 : t118 = true
      · subst c7
        have H1 : (if a0_1 = a0_0 then (rec_capRecord_right.j0 k true a0_0 a0_1 a0_2 a0_3 a0_4 a0_5 a0_6 a0_7 a0_8 a0_9) else ((rec_in.f a0_2 1 16777215).bind fun t119 => (if t119 = true then ((rec_in.f a0_3 1 16777215).bind fun t120 => (rec_capRecord_right.j0 k (!t120) a0_0 a0_1 a0_2 a0_3 a0_4 a0_5 a0_6 a0_7 a0_8 a0_9)) else (rec_capRecord_right.j0 k true a0_0 a0_1 a0_2 a0_3 a0_4 a0_5 a0_6 a0_7 a0_8 a0_9)))) = some r := by rw [if_pos rfl] at H; exact H
        clear H
        have H := H1
        clear H1
        by_cases c8 : a0_1 = a0_0
        · rw [if_pos c8] at H
          have c8b0 : (a0_1 == a0_0) = true := beq_iff_eq.mpr c8
          have c8b1 : (a0_1 != a0_0) = false := bne_eq_false_iff_eq.mpr c8
          clear c8
          (first | rw [c8b0] | (simp only [i64_w, i32_w]; rw [c8b0]) | skip)
          have H' := Aside0.mk H
          clear H
          have hcz9_0 : w3.cell? ⟨gb116, 0, none⟩ = some (.int .i64 a0_0) := (blk_cell BK116.out 0).trans rfl
          have hcz9_1 : w3.cell? ⟨gb116, 1, none⟩ = some (.int .i64 a0_1) := (blk_cell BK116.out 1).trans rfl
          have hcz9_2 : w3.cell? ⟨gb116, 2, none⟩ = some (.int .i64 a0_2) := (blk_cell BK116.out 2).trans rfl
          have hcz9_3 : w3.cell? ⟨gb116, 3, none⟩ = some (.int .i64 a0_3) := (blk_cell BK116.out 3).trans rfl
          have hcz9_4 : w3.cell? ⟨gb116, 4, none⟩ = some (.int .i64 a0_4) := (blk_cell BK116.out 4).trans rfl
          have hcz9_5 : w3.cell? ⟨gb116, 5, none⟩ = some (.int .i64 a0_5) := (blk_cell BK116.out 5).trans rfl
          have hcz9_6 : w3.cell? ⟨gb116, 6, none⟩ = some (.int .i64 a0_6) := (blk_cell BK116.out 6).trans rfl
          have hcz9_7 : w3.cell? ⟨gb116, 7, none⟩ = some (.int .i64 a0_7) := (blk_cell BK116.out 7).trans rfl
          have hcz9_8 : w3.cell? ⟨gb116, 8, none⟩ = some (.int .i64 a0_8) := (blk_cell BK116.out 8).trans rfl
          have hcz9_9 : w3.cell? ⟨gb116, 9, none⟩ = some (.bool a0_9) := (blk_cell BK116.out 9).trans rfl
          have hfz9_0 := blk_frozen BK116.out 0
          have hfz9_1 := blk_frozen BK116.out 1
          have hfz9_2 := blk_frozen BK116.out 2
          have hfz9_3 := blk_frozen BK116.out 3
          have hfz9_4 := blk_frozen BK116.out 4
          have hfz9_5 := blk_frozen BK116.out 5
          have hfz9_6 := blk_frozen BK116.out 6
          have hfz9_7 := blk_frozen BK116.out 7
          have hfz9_8 := blk_frozen BK116.out 8
          have hfz9_9 := blk_frozen BK116.out 9
          go_wp2_with (first | ((with_reducible refine gate_callee (f := 56) rfl ?_); refine goesL_ (some 6) rfl rfl Try.func56 (by kernel_rfl) rfl #[.int .i64 a0_0, .int .i64 1, .int .i64 16777215] rfl (by (try simp only [List.map_toArray, List.map_cons, List.map_nil]); first | done | rfl | (simp only [List.length_drop, List.length_take]; rfl)) ?_; (with_reducible refine (rec_in.calls a0_0 1 16777215 true _ A4.out).mono ?_); rintro e w' ⟨rfl, ⟨nd, rfl⟩⟩; refine ⟨_, rfl, ?_⟩) | (go_at_call 56; (with_reducible refine (rec_in.calls a0_1 0 16777215 true _ A6.out).mono ?_); rintro e w' ⟨rfl, ⟨nd, rfl⟩⟩))
          go_meet
          case rel => exact ⟨_, (true), (by first | rfl | (simp; done) | (simp [*]; done)), H', ⟨by first | omega | exact Nat.le_refl _⟩, ⟨by (with_reducible repeat (first | refine blk_drewN ?_ _ | refine blk_drew ?_ | refine blk_alloc ?_ _)); exact BK116.out⟩, ⟨by repeat (first | (with_reducible first | exact HB.out | apply below_alloc | apply pw_below_drewN | apply below_drew1 | refine below_set ?_ GE116.out) | exact HB.out)⟩⟩
        · rw [if_neg c8] at H
          have c8b0 : (a0_1 == a0_0) = false := beq_eq_false_iff_ne.mpr c8
          have c8b1 : (a0_1 != a0_0) = true := bne_iff_ne.mpr c8
          (first | rw [c8b0] | (simp only [i64_w, i32_w]; rw [c8b0]) | skip)
          replace H := Option.bind_eq_some_iff.mp H
          obtain ⟨t119, A100, H⟩ := H
          replace H : (if t119 = true then ((rec_in.f a0_3 1 16777215).bind fun t120 => (rec_capRecord_right.j0 k (!t120) a0_0 a0_1 a0_2 a0_3 a0_4 a0_5 a0_6 a0_7 a0_8 a0_9)) else (rec_capRecord_right.j0 k true a0_0 a0_1 a0_2 a0_3 a0_4 a0_5 a0_6 a0_7 a0_8 a0_9)) = some r := H
          have A10 := Aside0.mk A100
          clear A100
          by_cases c11 : t119 = true
          · subst c11
            have H1 : ((rec_in.f a0_3 1 16777215).bind fun t120 => (rec_capRecord_right.j0 k (!t120) a0_0 a0_1 a0_2 a0_3 a0_4 a0_5 a0_6 a0_7 a0_8 a0_9)) = some r := by rw [if_pos rfl] at H; exact H
            clear H
            have H := H1
            clear H1
            replace H := Option.bind_eq_some_iff.mp H
            obtain ⟨t120, A120, H⟩ := H
            replace H : (rec_capRecord_right.j0 k (!t120) a0_0 a0_1 a0_2 a0_3 a0_4 a0_5 a0_6 a0_7 a0_8 a0_9) = some r := H
            have A12 := Aside0.mk A120
            clear A120
            have H' := Aside0.mk H
            clear H
            have hcz13_0 : w3.cell? ⟨gb116, 0, none⟩ = some (.int .i64 a0_0) := (blk_cell BK116.out 0).trans rfl
            have hcz13_1 : w3.cell? ⟨gb116, 1, none⟩ = some (.int .i64 a0_1) := (blk_cell BK116.out 1).trans rfl
            have hcz13_2 : w3.cell? ⟨gb116, 2, none⟩ = some (.int .i64 a0_2) := (blk_cell BK116.out 2).trans rfl
            have hcz13_3 : w3.cell? ⟨gb116, 3, none⟩ = some (.int .i64 a0_3) := (blk_cell BK116.out 3).trans rfl
            have hcz13_4 : w3.cell? ⟨gb116, 4, none⟩ = some (.int .i64 a0_4) := (blk_cell BK116.out 4).trans rfl
            have hcz13_5 : w3.cell? ⟨gb116, 5, none⟩ = some (.int .i64 a0_5) := (blk_cell BK116.out 5).trans rfl
            have hcz13_6 : w3.cell? ⟨gb116, 6, none⟩ = some (.int .i64 a0_6) := (blk_cell BK116.out 6).trans rfl
            have hcz13_7 : w3.cell? ⟨gb116, 7, none⟩ = some (.int .i64 a0_7) := (blk_cell BK116.out 7).trans rfl
            have hcz13_8 : w3.cell? ⟨gb116, 8, none⟩ = some (.int .i64 a0_8) := (blk_cell BK116.out 8).trans rfl
            have hcz13_9 : w3.cell? ⟨gb116, 9, none⟩ = some (.bool a0_9) := (blk_cell BK116.out 9).trans rfl
            have hfz13_0 := blk_frozen BK116.out 0
            have hfz13_1 := blk_frozen BK116.out 1
            have hfz13_2 := blk_frozen BK116.out 2
            have hfz13_3 := blk_frozen BK116.out 3
            have hfz13_4 := blk_frozen BK116.out 4
            have hfz13_5 := blk_frozen BK116.out 5
            have hfz13_6 := blk_frozen BK116.out 6
            have hfz13_7 := blk_frozen BK116.out 7
            have hfz13_8 := blk_frozen BK116.out 8
            have hfz13_9 := blk_frozen BK116.out 9
            go_wp2_with (first | ((with_reducible refine gate_callee (f := 56) rfl ?_); refine goesL_ (some 6) rfl rfl Try.func56 (by kernel_rfl) rfl #[.int .i64 a0_0, .int .i64 1, .int .i64 16777215] rfl (by (try simp only [List.map_toArray, List.map_cons, List.map_nil]); first | done | rfl | (simp only [List.length_drop, List.length_take]; rfl)) ?_; (with_reducible refine (rec_in.calls a0_0 1 16777215 true _ A4.out).mono ?_); rintro e w' ⟨rfl, ⟨nd, rfl⟩⟩; refine ⟨_, rfl, ?_⟩) | (go_at_call 56; (with_reducible refine (rec_in.calls a0_1 0 16777215 true _ A6.out).mono ?_); rintro e w' ⟨rfl, ⟨nd, rfl⟩⟩) | (go_at_call 56; (with_reducible refine (rec_in.calls a0_2 1 16777215 true _ A10.out).mono ?_); rintro e w' ⟨rfl, ⟨nd, rfl⟩⟩) | (go_at_call 56; (with_reducible refine (rec_in.calls a0_3 1 16777215 t120 _ A12.out).mono ?_); rintro e w' ⟨rfl, ⟨nd, rfl⟩⟩))
            go_meet
            case rel => exact ⟨_, (!t120), (by first | rfl | (simp; done) | (simp [*]; done)), H', ⟨by first | omega | exact Nat.le_refl _⟩, ⟨by (with_reducible repeat (first | refine blk_drewN ?_ _ | refine blk_drew ?_ | refine blk_alloc ?_ _)); exact BK116.out⟩, ⟨by repeat (first | (with_reducible first | exact HB.out | apply below_alloc | apply pw_below_drewN | apply below_drew1 | refine below_set ?_ GE116.out) | exact HB.out)⟩⟩
          · replace c11 := Bool.eq_false_iff.mpr c11
            subst c11
            have H1 : (rec_capRecord_right.j0 k true a0_0 a0_1 a0_2 a0_3 a0_4 a0_5 a0_6 a0_7 a0_8 a0_9) = some r := by rw [if_neg (show ¬ (false = true) by decide)] at H; exact H
            clear H
            have H := H1
            clear H1
            have H' := Aside0.mk H
            clear H
            have hcz14_0 : w3.cell? ⟨gb116, 0, none⟩ = some (.int .i64 a0_0) := (blk_cell BK116.out 0).trans rfl
            have hcz14_1 : w3.cell? ⟨gb116, 1, none⟩ = some (.int .i64 a0_1) := (blk_cell BK116.out 1).trans rfl
            have hcz14_2 : w3.cell? ⟨gb116, 2, none⟩ = some (.int .i64 a0_2) := (blk_cell BK116.out 2).trans rfl
            have hcz14_3 : w3.cell? ⟨gb116, 3, none⟩ = some (.int .i64 a0_3) := (blk_cell BK116.out 3).trans rfl
            have hcz14_4 : w3.cell? ⟨gb116, 4, none⟩ = some (.int .i64 a0_4) := (blk_cell BK116.out 4).trans rfl
            have hcz14_5 : w3.cell? ⟨gb116, 5, none⟩ = some (.int .i64 a0_5) := (blk_cell BK116.out 5).trans rfl
            have hcz14_6 : w3.cell? ⟨gb116, 6, none⟩ = some (.int .i64 a0_6) := (blk_cell BK116.out 6).trans rfl
            have hcz14_7 : w3.cell? ⟨gb116, 7, none⟩ = some (.int .i64 a0_7) := (blk_cell BK116.out 7).trans rfl
            have hcz14_8 : w3.cell? ⟨gb116, 8, none⟩ = some (.int .i64 a0_8) := (blk_cell BK116.out 8).trans rfl
            have hcz14_9 : w3.cell? ⟨gb116, 9, none⟩ = some (.bool a0_9) := (blk_cell BK116.out 9).trans rfl
            have hfz14_0 := blk_frozen BK116.out 0
            have hfz14_1 := blk_frozen BK116.out 1
            have hfz14_2 := blk_frozen BK116.out 2
            have hfz14_3 := blk_frozen BK116.out 3
            have hfz14_4 := blk_frozen BK116.out 4
            have hfz14_5 := blk_frozen BK116.out 5
            have hfz14_6 := blk_frozen BK116.out 6
            have hfz14_7 := blk_frozen BK116.out 7
            have hfz14_8 := blk_frozen BK116.out 8
            have hfz14_9 := blk_frozen BK116.out 9
            go_wp2_with (first | ((with_reducible refine gate_callee (f := 56) rfl ?_); refine goesL_ (some 6) rfl rfl Try.func56 (by kernel_rfl) rfl #[.int .i64 a0_0, .int .i64 1, .int .i64 16777215] rfl (by (try simp only [List.map_toArray, List.map_cons, List.map_nil]); first | done | rfl | (simp only [List.length_drop, List.length_take]; rfl)) ?_; (with_reducible refine (rec_in.calls a0_0 1 16777215 true _ A4.out).mono ?_); rintro e w' ⟨rfl, ⟨nd, rfl⟩⟩; refine ⟨_, rfl, ?_⟩) | (go_at_call 56; (with_reducible refine (rec_in.calls a0_1 0 16777215 true _ A6.out).mono ?_); rintro e w' ⟨rfl, ⟨nd, rfl⟩⟩) | (go_at_call 56; (with_reducible refine (rec_in.calls a0_2 1 16777215 false _ A10.out).mono ?_); rintro e w' ⟨rfl, ⟨nd, rfl⟩⟩))
            go_meet
            case rel => exact ⟨_, (true), (by first | rfl | (simp; done) | (simp [*]; done)), H', ⟨by first | omega | exact Nat.le_refl _⟩, ⟨by (with_reducible repeat (first | refine blk_drewN ?_ _ | refine blk_drew ?_ | refine blk_alloc ?_ _)); exact BK116.out⟩, ⟨by repeat (first | (with_reducible first | exact HB.out | apply below_alloc | apply pw_below_drewN | apply below_drew1 | refine below_set ?_ GE116.out) | exact HB.out)⟩⟩
      · replace c7 := Bool.eq_false_iff.mpr c7
        subst c7
        have H1 : (rec_capRecord_right.j0 k true a0_0 a0_1 a0_2 a0_3 a0_4 a0_5 a0_6 a0_7 a0_8 a0_9) = some r := by rw [if_neg (show ¬ (false = true) by decide)] at H; exact H
        clear H
        have H := H1
        clear H1
        have H' := Aside0.mk H
        clear H
        have hcz15_0 : w3.cell? ⟨gb116, 0, none⟩ = some (.int .i64 a0_0) := (blk_cell BK116.out 0).trans rfl
        have hcz15_1 : w3.cell? ⟨gb116, 1, none⟩ = some (.int .i64 a0_1) := (blk_cell BK116.out 1).trans rfl
        have hcz15_2 : w3.cell? ⟨gb116, 2, none⟩ = some (.int .i64 a0_2) := (blk_cell BK116.out 2).trans rfl
        have hcz15_3 : w3.cell? ⟨gb116, 3, none⟩ = some (.int .i64 a0_3) := (blk_cell BK116.out 3).trans rfl
        have hcz15_4 : w3.cell? ⟨gb116, 4, none⟩ = some (.int .i64 a0_4) := (blk_cell BK116.out 4).trans rfl
        have hcz15_5 : w3.cell? ⟨gb116, 5, none⟩ = some (.int .i64 a0_5) := (blk_cell BK116.out 5).trans rfl
        have hcz15_6 : w3.cell? ⟨gb116, 6, none⟩ = some (.int .i64 a0_6) := (blk_cell BK116.out 6).trans rfl
        have hcz15_7 : w3.cell? ⟨gb116, 7, none⟩ = some (.int .i64 a0_7) := (blk_cell BK116.out 7).trans rfl
        have hcz15_8 : w3.cell? ⟨gb116, 8, none⟩ = some (.int .i64 a0_8) := (blk_cell BK116.out 8).trans rfl
        have hcz15_9 : w3.cell? ⟨gb116, 9, none⟩ = some (.bool a0_9) := (blk_cell BK116.out 9).trans rfl
        have hfz15_0 := blk_frozen BK116.out 0
        have hfz15_1 := blk_frozen BK116.out 1
        have hfz15_2 := blk_frozen BK116.out 2
        have hfz15_3 := blk_frozen BK116.out 3
        have hfz15_4 := blk_frozen BK116.out 4
        have hfz15_5 := blk_frozen BK116.out 5
        have hfz15_6 := blk_frozen BK116.out 6
        have hfz15_7 := blk_frozen BK116.out 7
        have hfz15_8 := blk_frozen BK116.out 8
        have hfz15_9 := blk_frozen BK116.out 9
        go_wp2_with (first | ((with_reducible refine gate_callee (f := 56) rfl ?_); refine goesL_ (some 6) rfl rfl Try.func56 (by kernel_rfl) rfl #[.int .i64 a0_0, .int .i64 1, .int .i64 16777215] rfl (by (try simp only [List.map_toArray, List.map_cons, List.map_nil]); first | done | rfl | (simp only [List.length_drop, List.length_take]; rfl)) ?_; (with_reducible refine (rec_in.calls a0_0 1 16777215 true _ A4.out).mono ?_); rintro e w' ⟨rfl, ⟨nd, rfl⟩⟩; refine ⟨_, rfl, ?_⟩) | (go_at_call 56; (with_reducible refine (rec_in.calls a0_1 0 16777215 false _ A6.out).mono ?_); rintro e w' ⟨rfl, ⟨nd, rfl⟩⟩))
        go_meet
        case rel => exact ⟨_, (true), (by first | rfl | (simp; done) | (simp [*]; done)), H', ⟨by first | omega | exact Nat.le_refl _⟩, ⟨by (with_reducible repeat (first | refine blk_drewN ?_ _ | refine blk_drew ?_ | refine blk_alloc ?_ _)); exact BK116.out⟩, ⟨by repeat (first | (with_reducible first | exact HB.out | apply below_alloc | apply pw_below_drewN | apply below_drew1 | refine below_set ?_ GE116.out) | exact HB.out)⟩⟩
    · replace c5 := Bool.eq_false_iff.mpr c5
      subst c5
      have H1 : (rec_capRecord_right.j0 k true a0_0 a0_1 a0_2 a0_3 a0_4 a0_5 a0_6 a0_7 a0_8 a0_9) = some r := by rw [if_neg (show ¬ (false = true) by decide)] at H; exact H
      clear H
      have H := H1
      clear H1
      have H' := Aside0.mk H
      clear H
      have hcz16_0 : w3.cell? ⟨gb116, 0, none⟩ = some (.int .i64 a0_0) := (blk_cell BK116.out 0).trans rfl
      have hcz16_1 : w3.cell? ⟨gb116, 1, none⟩ = some (.int .i64 a0_1) := (blk_cell BK116.out 1).trans rfl
      have hcz16_2 : w3.cell? ⟨gb116, 2, none⟩ = some (.int .i64 a0_2) := (blk_cell BK116.out 2).trans rfl
      have hcz16_3 : w3.cell? ⟨gb116, 3, none⟩ = some (.int .i64 a0_3) := (blk_cell BK116.out 3).trans rfl
      have hcz16_4 : w3.cell? ⟨gb116, 4, none⟩ = some (.int .i64 a0_4) := (blk_cell BK116.out 4).trans rfl
      have hcz16_5 : w3.cell? ⟨gb116, 5, none⟩ = some (.int .i64 a0_5) := (blk_cell BK116.out 5).trans rfl
      have hcz16_6 : w3.cell? ⟨gb116, 6, none⟩ = some (.int .i64 a0_6) := (blk_cell BK116.out 6).trans rfl
      have hcz16_7 : w3.cell? ⟨gb116, 7, none⟩ = some (.int .i64 a0_7) := (blk_cell BK116.out 7).trans rfl
      have hcz16_8 : w3.cell? ⟨gb116, 8, none⟩ = some (.int .i64 a0_8) := (blk_cell BK116.out 8).trans rfl
      have hcz16_9 : w3.cell? ⟨gb116, 9, none⟩ = some (.bool a0_9) := (blk_cell BK116.out 9).trans rfl
      have hfz16_0 := blk_frozen BK116.out 0
      have hfz16_1 := blk_frozen BK116.out 1
      have hfz16_2 := blk_frozen BK116.out 2
      have hfz16_3 := blk_frozen BK116.out 3
      have hfz16_4 := blk_frozen BK116.out 4
      have hfz16_5 := blk_frozen BK116.out 5
      have hfz16_6 := blk_frozen BK116.out 6
      have hfz16_7 := blk_frozen BK116.out 7
      have hfz16_8 := blk_frozen BK116.out 8
      have hfz16_9 := blk_frozen BK116.out 9
      go_wp2_with (first | ((with_reducible refine gate_callee (f := 56) rfl ?_); refine goesL_ (some 6) rfl rfl Try.func56 (by kernel_rfl) rfl #[.int .i64 a0_0, .int .i64 1, .int .i64 16777215] rfl (by (try simp only [List.map_toArray, List.map_cons, List.map_nil]); first | done | rfl | (simp only [List.length_drop, List.length_take]; rfl)) ?_; (with_reducible refine (rec_in.calls a0_0 1 16777215 false _ A4.out).mono ?_); rintro e w' ⟨rfl, ⟨nd, rfl⟩⟩; refine ⟨_, rfl, ?_⟩))
      go_meet
      case rel => exact ⟨_, (true), (by first | rfl | (simp; done) | (simp [*]; done)), H', ⟨by first | omega | exact Nat.le_refl _⟩, ⟨by (with_reducible repeat (first | refine blk_drewN ?_ _ | refine blk_drew ?_ | refine blk_alloc ?_ _)); exact BK116.out⟩, ⟨by repeat (first | (with_reducible first | exact HB.out | apply below_alloc | apply pw_below_drewN | apply below_drew1 | refine below_set ?_ GE116.out) | exact HB.out)⟩⟩
  case rest =>
    clear HC2
    try clear c1
    try clear p2
    try clear c3
    try clear c5
    try clear c7
    try clear c8
    try clear c8b0
    try clear c8b1
    try clear c11
    try clear hcz13_0
    try clear hcz13_1
    try clear hcz13_2
    try clear hcz13_3
    try clear hcz13_4
    try clear hcz13_5
    try clear hcz13_6
    try clear hcz13_7
    try clear hcz13_8
    try clear hcz13_9
    try clear hcz14_0
    try clear hcz14_1
    try clear hcz14_2
    try clear hcz14_3
    try clear hcz14_4
    try clear hcz14_5
    try clear hcz14_6
    try clear hcz14_7
    try clear hcz14_8
    try clear hcz14_9
    try clear hcz15_0
    try clear hcz15_1
    try clear hcz15_2
    try clear hcz15_3
    try clear hcz15_4
    try clear hcz15_5
    try clear hcz15_6
    try clear hcz15_7
    try clear hcz15_8
    try clear hcz15_9
    try clear hcz16_0
    try clear hcz16_1
    try clear hcz16_2
    try clear hcz16_3
    try clear hcz16_4
    try clear hcz16_5
    try clear hcz16_6
    try clear hcz16_7
    try clear hcz16_8
    try clear hcz16_9
    try clear hcz9_0
    try clear hcz9_1
    try clear hcz9_2
    try clear hcz9_3
    try clear hcz9_4
    try clear hcz9_5
    try clear hcz9_6
    try clear hcz9_7
    try clear hcz9_8
    try clear hcz9_9
    try clear hfz13_0
    try clear hfz13_1
    try clear hfz13_2
    try clear hfz13_3
    try clear hfz13_4
    try clear hfz13_5
    try clear hfz13_6
    try clear hfz13_7
    try clear hfz13_8
    try clear hfz13_9
    try clear hfz14_0
    try clear hfz14_1
    try clear hfz14_2
    try clear hfz14_3
    try clear hfz14_4
    try clear hfz14_5
    try clear hfz14_6
    try clear hfz14_7
    try clear hfz14_8
    try clear hfz14_9
    try clear hfz15_0
    try clear hfz15_1
    try clear hfz15_2
    try clear hfz15_3
    try clear hfz15_4
    try clear hfz15_5
    try clear hfz15_6
    try clear hfz15_7
    try clear hfz15_8
    try clear hfz15_9
    try clear hfz16_0
    try clear hfz16_1
    try clear hfz16_2
    try clear hfz16_3
    try clear hfz16_4
    try clear hfz16_5
    try clear hfz16_6
    try clear hfz16_7
    try clear hfz16_8
    try clear hfz16_9
    try clear hfz9_0
    try clear hfz9_1
    try clear hfz9_2
    try clear hfz9_3
    try clear hfz9_4
    try clear hfz9_5
    try clear hfz9_6
    try clear hfz9_7
    try clear hfz9_8
    try clear hfz9_9
    obtain ⟨kq, x37_1, rfl, HA, HJ1, BK116, HB⟩ := hcut
    cases kq with
    | zero => exact absurd HA.out (by simp [rec_capRecord_right.j0])
    | succ kj1 =>
      have H := HA.out
      clear HA
      simp only [rec_capRecord_right.j0] at H
      by_cases c17 : x37_1 = true
      · subst c17
        have H1 : (some false) = some r := by rw [if_pos rfl] at H; exact H
        clear H
        have H := H1
        clear H1
        obtain rfl := Option.some.inj H
        go_wp2
        go_ret
        exact ⟨by first | rfl | (simp [errW_none, errW_some] <;> rfl) | (simp [*, errW_none, errW_some] <;> rfl), by repeat (first | (with_reducible first | exact HB.out | apply below_alloc | apply pw_below_drewN | apply below_drew1 | refine below_set ?_ GE116.out) | exact HB.out)⟩
      · replace c17 := Bool.eq_false_iff.mpr c17
        subst c17
        have H1 : ((rights_Sub.f a0_4 a0_4).bind fun t121 => (if t121 = true then ((rec_in.f a0_5 0 4294967295).bind fun t122 => (if t122 = true then ((rec_in.f a0_7 0 268435455).bind fun t123 => (if t123 = true then ((rec_in.f a0_8 0 16777215).bind fun t124 => (if t124 = true then ((rec_in.f a0_6 1 8).bind fun t125 => (if t125 = true then (some ((a0_6 == 1) == (a0_1 == 0))) else (some false))) else (some false))) else (some false))) else (some false))) else (some false))) = some r := by rw [if_neg (show ¬ (false = true) by decide)] at H; exact H
        clear H
        have H := H1
        clear H1
        replace H := Option.bind_eq_some_iff.mp H
        obtain ⟨t121, A180, H⟩ := H
        replace H : (if t121 = true then ((rec_in.f a0_5 0 4294967295).bind fun t122 => (if t122 = true then ((rec_in.f a0_7 0 268435455).bind fun t123 => (if t123 = true then ((rec_in.f a0_8 0 16777215).bind fun t124 => (if t124 = true then ((rec_in.f a0_6 1 8).bind fun t125 => (if t125 = true then (some ((a0_6 == 1) == (a0_1 == 0))) else (some false))) else (some false))) else (some false))) else (some false))) else (some false)) = some r := H
        have A18 := Aside0.mk A180
        clear A180
        by_cases c19 : t121 = true
        · subst c19
          have H1 : ((rec_in.f a0_5 0 4294967295).bind fun t122 => (if t122 = true then ((rec_in.f a0_7 0 268435455).bind fun t123 => (if t123 = true then ((rec_in.f a0_8 0 16777215).bind fun t124 => (if t124 = true then ((rec_in.f a0_6 1 8).bind fun t125 => (if t125 = true then (some ((a0_6 == 1) == (a0_1 == 0))) else (some false))) else (some false))) else (some false))) else (some false))) = some r := by rw [if_pos rfl] at H; exact H
          clear H
          have H := H1
          clear H1
          replace H := Option.bind_eq_some_iff.mp H
          obtain ⟨t122, A200, H⟩ := H
          replace H : (if t122 = true then ((rec_in.f a0_7 0 268435455).bind fun t123 => (if t123 = true then ((rec_in.f a0_8 0 16777215).bind fun t124 => (if t124 = true then ((rec_in.f a0_6 1 8).bind fun t125 => (if t125 = true then (some ((a0_6 == 1) == (a0_1 == 0))) else (some false))) else (some false))) else (some false))) else (some false)) = some r := H
          have A20 := Aside0.mk A200
          clear A200
          by_cases c21 : t122 = true
          · subst c21
            have H1 : ((rec_in.f a0_7 0 268435455).bind fun t123 => (if t123 = true then ((rec_in.f a0_8 0 16777215).bind fun t124 => (if t124 = true then ((rec_in.f a0_6 1 8).bind fun t125 => (if t125 = true then (some ((a0_6 == 1) == (a0_1 == 0))) else (some false))) else (some false))) else (some false))) = some r := by rw [if_pos rfl] at H; exact H
            clear H
            have H := H1
            clear H1
            replace H := Option.bind_eq_some_iff.mp H
            obtain ⟨t123, A220, H⟩ := H
            replace H : (if t123 = true then ((rec_in.f a0_8 0 16777215).bind fun t124 => (if t124 = true then ((rec_in.f a0_6 1 8).bind fun t125 => (if t125 = true then (some ((a0_6 == 1) == (a0_1 == 0))) else (some false))) else (some false))) else (some false)) = some r := H
            have A22 := Aside0.mk A220
            clear A220
            by_cases c23 : t123 = true
            · subst c23
              have H1 : ((rec_in.f a0_8 0 16777215).bind fun t124 => (if t124 = true then ((rec_in.f a0_6 1 8).bind fun t125 => (if t125 = true then (some ((a0_6 == 1) == (a0_1 == 0))) else (some false))) else (some false))) = some r := by rw [if_pos rfl] at H; exact H
              clear H
              have H := H1
              clear H1
              replace H := Option.bind_eq_some_iff.mp H
              obtain ⟨t124, A240, H⟩ := H
              replace H : (if t124 = true then ((rec_in.f a0_6 1 8).bind fun t125 => (if t125 = true then (some ((a0_6 == 1) == (a0_1 == 0))) else (some false))) else (some false)) = some r := H
              have A24 := Aside0.mk A240
              clear A240
              by_cases c25 : t124 = true
              · subst c25
                have H1 : ((rec_in.f a0_6 1 8).bind fun t125 => (if t125 = true then (some ((a0_6 == 1) == (a0_1 == 0))) else (some false))) = some r := by rw [if_pos rfl] at H; exact H
                clear H
                have H := H1
                clear H1
                replace H := Option.bind_eq_some_iff.mp H
                obtain ⟨t125, A260, H⟩ := H
                replace H : (if t125 = true then (some ((a0_6 == 1) == (a0_1 == 0))) else (some false)) = some r := H
                have A26 := Aside0.mk A260
                clear A260
                by_cases c27 : t125 = true
                · subst c27
                  have H1 : (some ((a0_6 == 1) == (a0_1 == 0))) = some r := by rw [if_pos rfl] at H; exact H
                  clear H
                  have H := H1
                  clear H1
                  obtain rfl := Option.some.inj H
                  have hcz28_0 : wc.cell? ⟨gb116, 0, none⟩ = some (.int .i64 a0_0) := (blk_cell BK116.out 0).trans rfl
                  have hcz28_1 : wc.cell? ⟨gb116, 1, none⟩ = some (.int .i64 a0_1) := (blk_cell BK116.out 1).trans rfl
                  have hcz28_2 : wc.cell? ⟨gb116, 2, none⟩ = some (.int .i64 a0_2) := (blk_cell BK116.out 2).trans rfl
                  have hcz28_3 : wc.cell? ⟨gb116, 3, none⟩ = some (.int .i64 a0_3) := (blk_cell BK116.out 3).trans rfl
                  have hcz28_4 : wc.cell? ⟨gb116, 4, none⟩ = some (.int .i64 a0_4) := (blk_cell BK116.out 4).trans rfl
                  have hcz28_5 : wc.cell? ⟨gb116, 5, none⟩ = some (.int .i64 a0_5) := (blk_cell BK116.out 5).trans rfl
                  have hcz28_6 : wc.cell? ⟨gb116, 6, none⟩ = some (.int .i64 a0_6) := (blk_cell BK116.out 6).trans rfl
                  have hcz28_7 : wc.cell? ⟨gb116, 7, none⟩ = some (.int .i64 a0_7) := (blk_cell BK116.out 7).trans rfl
                  have hcz28_8 : wc.cell? ⟨gb116, 8, none⟩ = some (.int .i64 a0_8) := (blk_cell BK116.out 8).trans rfl
                  have hcz28_9 : wc.cell? ⟨gb116, 9, none⟩ = some (.bool a0_9) := (blk_cell BK116.out 9).trans rfl
                  have hfz28_0 := blk_frozen BK116.out 0
                  have hfz28_1 := blk_frozen BK116.out 1
                  have hfz28_2 := blk_frozen BK116.out 2
                  have hfz28_3 := blk_frozen BK116.out 3
                  have hfz28_4 := blk_frozen BK116.out 4
                  have hfz28_5 := blk_frozen BK116.out 5
                  have hfz28_6 := blk_frozen BK116.out 6
                  have hfz28_7 := blk_frozen BK116.out 7
                  have hfz28_8 := blk_frozen BK116.out 8
                  have hfz28_9 := blk_frozen BK116.out 9
                  go_wp2_with (first | ((with_reducible refine gate_callee (f := 57) rfl ?_); refine goesL_ (some 44) rfl rfl Try.func57 (by kernel_rfl) rfl #[.int .i64 a0_4, .int .i64 a0_4] rfl (by (try simp only [List.map_toArray, List.map_cons, List.map_nil]); first | done | rfl | (simp only [List.length_drop, List.length_take]; rfl)) ?_; (with_reducible refine (rights_Sub.calls a0_4 a0_4 true _ A18.out).mono ?_); rintro e w' ⟨rfl, ⟨nd, rfl⟩⟩; refine ⟨_, rfl, ?_⟩) | (go_at_call 56; (with_reducible refine (rec_in.calls a0_5 0 4294967295 true _ A20.out).mono ?_); rintro e w' ⟨rfl, ⟨nd, rfl⟩⟩) | (go_at_call 56; (with_reducible refine (rec_in.calls a0_7 0 268435455 true _ A22.out).mono ?_); rintro e w' ⟨rfl, ⟨nd, rfl⟩⟩) | (go_at_call 56; (with_reducible refine (rec_in.calls a0_8 0 16777215 true _ A24.out).mono ?_); rintro e w' ⟨rfl, ⟨nd, rfl⟩⟩) | ((with_reducible refine gate_callee (f := 56) rfl ?_); refine goesL_ (some 70) rfl rfl Try.func56 (by kernel_rfl) rfl #[.int .i64 a0_6, .int .i64 1, .int .i64 8] rfl (by (try simp only [List.map_toArray, List.map_cons, List.map_nil]); first | done | rfl | (simp only [List.length_drop, List.length_take]; rfl)) ?_; (with_reducible refine (rec_in.calls a0_6 1 8 true _ A26.out).mono ?_); rintro e w' ⟨rfl, ⟨nd, rfl⟩⟩; refine ⟨_, rfl, ?_⟩))
                  go_ret
                  exact ⟨by first | rfl | (simp [errW_none, errW_some] <;> rfl) | (simp [*, errW_none, errW_some] <;> rfl), by repeat (first | (with_reducible first | exact HB.out | apply below_alloc | apply pw_below_drewN | apply below_drew1 | refine below_set ?_ GE116.out) | exact HB.out)⟩
                · replace c27 := Bool.eq_false_iff.mpr c27
                  subst c27
                  have H1 : (some false) = some r := by rw [if_neg (show ¬ (false = true) by decide)] at H; exact H
                  clear H
                  have H := H1
                  clear H1
                  obtain rfl := Option.some.inj H
                  have hcz29_0 : wc.cell? ⟨gb116, 0, none⟩ = some (.int .i64 a0_0) := (blk_cell BK116.out 0).trans rfl
                  have hcz29_1 : wc.cell? ⟨gb116, 1, none⟩ = some (.int .i64 a0_1) := (blk_cell BK116.out 1).trans rfl
                  have hcz29_2 : wc.cell? ⟨gb116, 2, none⟩ = some (.int .i64 a0_2) := (blk_cell BK116.out 2).trans rfl
                  have hcz29_3 : wc.cell? ⟨gb116, 3, none⟩ = some (.int .i64 a0_3) := (blk_cell BK116.out 3).trans rfl
                  have hcz29_4 : wc.cell? ⟨gb116, 4, none⟩ = some (.int .i64 a0_4) := (blk_cell BK116.out 4).trans rfl
                  have hcz29_5 : wc.cell? ⟨gb116, 5, none⟩ = some (.int .i64 a0_5) := (blk_cell BK116.out 5).trans rfl
                  have hcz29_6 : wc.cell? ⟨gb116, 6, none⟩ = some (.int .i64 a0_6) := (blk_cell BK116.out 6).trans rfl
                  have hcz29_7 : wc.cell? ⟨gb116, 7, none⟩ = some (.int .i64 a0_7) := (blk_cell BK116.out 7).trans rfl
                  have hcz29_8 : wc.cell? ⟨gb116, 8, none⟩ = some (.int .i64 a0_8) := (blk_cell BK116.out 8).trans rfl
                  have hcz29_9 : wc.cell? ⟨gb116, 9, none⟩ = some (.bool a0_9) := (blk_cell BK116.out 9).trans rfl
                  have hfz29_0 := blk_frozen BK116.out 0
                  have hfz29_1 := blk_frozen BK116.out 1
                  have hfz29_2 := blk_frozen BK116.out 2
                  have hfz29_3 := blk_frozen BK116.out 3
                  have hfz29_4 := blk_frozen BK116.out 4
                  have hfz29_5 := blk_frozen BK116.out 5
                  have hfz29_6 := blk_frozen BK116.out 6
                  have hfz29_7 := blk_frozen BK116.out 7
                  have hfz29_8 := blk_frozen BK116.out 8
                  have hfz29_9 := blk_frozen BK116.out 9
                  go_wp2_with (first | ((with_reducible refine gate_callee (f := 57) rfl ?_); refine goesL_ (some 44) rfl rfl Try.func57 (by kernel_rfl) rfl #[.int .i64 a0_4, .int .i64 a0_4] rfl (by (try simp only [List.map_toArray, List.map_cons, List.map_nil]); first | done | rfl | (simp only [List.length_drop, List.length_take]; rfl)) ?_; (with_reducible refine (rights_Sub.calls a0_4 a0_4 true _ A18.out).mono ?_); rintro e w' ⟨rfl, ⟨nd, rfl⟩⟩; refine ⟨_, rfl, ?_⟩) | (go_at_call 56; (with_reducible refine (rec_in.calls a0_5 0 4294967295 true _ A20.out).mono ?_); rintro e w' ⟨rfl, ⟨nd, rfl⟩⟩) | (go_at_call 56; (with_reducible refine (rec_in.calls a0_7 0 268435455 true _ A22.out).mono ?_); rintro e w' ⟨rfl, ⟨nd, rfl⟩⟩) | (go_at_call 56; (with_reducible refine (rec_in.calls a0_8 0 16777215 true _ A24.out).mono ?_); rintro e w' ⟨rfl, ⟨nd, rfl⟩⟩) | ((with_reducible refine gate_callee (f := 56) rfl ?_); refine goesL_ (some 70) rfl rfl Try.func56 (by kernel_rfl) rfl #[.int .i64 a0_6, .int .i64 1, .int .i64 8] rfl (by (try simp only [List.map_toArray, List.map_cons, List.map_nil]); first | done | rfl | (simp only [List.length_drop, List.length_take]; rfl)) ?_; (with_reducible refine (rec_in.calls a0_6 1 8 false _ A26.out).mono ?_); rintro e w' ⟨rfl, ⟨nd, rfl⟩⟩; refine ⟨_, rfl, ?_⟩))
                  go_ret
                  exact ⟨by first | rfl | (simp [errW_none, errW_some] <;> rfl) | (simp [*, errW_none, errW_some] <;> rfl), by repeat (first | (with_reducible first | exact HB.out | apply below_alloc | apply pw_below_drewN | apply below_drew1 | refine below_set ?_ GE116.out) | exact HB.out)⟩
              · replace c25 := Bool.eq_false_iff.mpr c25
                subst c25
                have H1 : (some false) = some r := by rw [if_neg (show ¬ (false = true) by decide)] at H; exact H
                clear H
                have H := H1
                clear H1
                obtain rfl := Option.some.inj H
                have hcz30_0 : wc.cell? ⟨gb116, 0, none⟩ = some (.int .i64 a0_0) := (blk_cell BK116.out 0).trans rfl
                have hcz30_1 : wc.cell? ⟨gb116, 1, none⟩ = some (.int .i64 a0_1) := (blk_cell BK116.out 1).trans rfl
                have hcz30_2 : wc.cell? ⟨gb116, 2, none⟩ = some (.int .i64 a0_2) := (blk_cell BK116.out 2).trans rfl
                have hcz30_3 : wc.cell? ⟨gb116, 3, none⟩ = some (.int .i64 a0_3) := (blk_cell BK116.out 3).trans rfl
                have hcz30_4 : wc.cell? ⟨gb116, 4, none⟩ = some (.int .i64 a0_4) := (blk_cell BK116.out 4).trans rfl
                have hcz30_5 : wc.cell? ⟨gb116, 5, none⟩ = some (.int .i64 a0_5) := (blk_cell BK116.out 5).trans rfl
                have hcz30_6 : wc.cell? ⟨gb116, 6, none⟩ = some (.int .i64 a0_6) := (blk_cell BK116.out 6).trans rfl
                have hcz30_7 : wc.cell? ⟨gb116, 7, none⟩ = some (.int .i64 a0_7) := (blk_cell BK116.out 7).trans rfl
                have hcz30_8 : wc.cell? ⟨gb116, 8, none⟩ = some (.int .i64 a0_8) := (blk_cell BK116.out 8).trans rfl
                have hcz30_9 : wc.cell? ⟨gb116, 9, none⟩ = some (.bool a0_9) := (blk_cell BK116.out 9).trans rfl
                have hfz30_0 := blk_frozen BK116.out 0
                have hfz30_1 := blk_frozen BK116.out 1
                have hfz30_2 := blk_frozen BK116.out 2
                have hfz30_3 := blk_frozen BK116.out 3
                have hfz30_4 := blk_frozen BK116.out 4
                have hfz30_5 := blk_frozen BK116.out 5
                have hfz30_6 := blk_frozen BK116.out 6
                have hfz30_7 := blk_frozen BK116.out 7
                have hfz30_8 := blk_frozen BK116.out 8
                have hfz30_9 := blk_frozen BK116.out 9
                go_wp2_with (first | ((with_reducible refine gate_callee (f := 57) rfl ?_); refine goesL_ (some 44) rfl rfl Try.func57 (by kernel_rfl) rfl #[.int .i64 a0_4, .int .i64 a0_4] rfl (by (try simp only [List.map_toArray, List.map_cons, List.map_nil]); first | done | rfl | (simp only [List.length_drop, List.length_take]; rfl)) ?_; (with_reducible refine (rights_Sub.calls a0_4 a0_4 true _ A18.out).mono ?_); rintro e w' ⟨rfl, ⟨nd, rfl⟩⟩; refine ⟨_, rfl, ?_⟩) | (go_at_call 56; (with_reducible refine (rec_in.calls a0_5 0 4294967295 true _ A20.out).mono ?_); rintro e w' ⟨rfl, ⟨nd, rfl⟩⟩) | (go_at_call 56; (with_reducible refine (rec_in.calls a0_7 0 268435455 true _ A22.out).mono ?_); rintro e w' ⟨rfl, ⟨nd, rfl⟩⟩) | (go_at_call 56; (with_reducible refine (rec_in.calls a0_8 0 16777215 false _ A24.out).mono ?_); rintro e w' ⟨rfl, ⟨nd, rfl⟩⟩))
                go_ret
                exact ⟨by first | rfl | (simp [errW_none, errW_some] <;> rfl) | (simp [*, errW_none, errW_some] <;> rfl), by repeat (first | (with_reducible first | exact HB.out | apply below_alloc | apply pw_below_drewN | apply below_drew1 | refine below_set ?_ GE116.out) | exact HB.out)⟩
            · replace c23 := Bool.eq_false_iff.mpr c23
              subst c23
              have H1 : (some false) = some r := by rw [if_neg (show ¬ (false = true) by decide)] at H; exact H
              clear H
              have H := H1
              clear H1
              obtain rfl := Option.some.inj H
              have hcz31_0 : wc.cell? ⟨gb116, 0, none⟩ = some (.int .i64 a0_0) := (blk_cell BK116.out 0).trans rfl
              have hcz31_1 : wc.cell? ⟨gb116, 1, none⟩ = some (.int .i64 a0_1) := (blk_cell BK116.out 1).trans rfl
              have hcz31_2 : wc.cell? ⟨gb116, 2, none⟩ = some (.int .i64 a0_2) := (blk_cell BK116.out 2).trans rfl
              have hcz31_3 : wc.cell? ⟨gb116, 3, none⟩ = some (.int .i64 a0_3) := (blk_cell BK116.out 3).trans rfl
              have hcz31_4 : wc.cell? ⟨gb116, 4, none⟩ = some (.int .i64 a0_4) := (blk_cell BK116.out 4).trans rfl
              have hcz31_5 : wc.cell? ⟨gb116, 5, none⟩ = some (.int .i64 a0_5) := (blk_cell BK116.out 5).trans rfl
              have hcz31_6 : wc.cell? ⟨gb116, 6, none⟩ = some (.int .i64 a0_6) := (blk_cell BK116.out 6).trans rfl
              have hcz31_7 : wc.cell? ⟨gb116, 7, none⟩ = some (.int .i64 a0_7) := (blk_cell BK116.out 7).trans rfl
              have hcz31_8 : wc.cell? ⟨gb116, 8, none⟩ = some (.int .i64 a0_8) := (blk_cell BK116.out 8).trans rfl
              have hcz31_9 : wc.cell? ⟨gb116, 9, none⟩ = some (.bool a0_9) := (blk_cell BK116.out 9).trans rfl
              have hfz31_0 := blk_frozen BK116.out 0
              have hfz31_1 := blk_frozen BK116.out 1
              have hfz31_2 := blk_frozen BK116.out 2
              have hfz31_3 := blk_frozen BK116.out 3
              have hfz31_4 := blk_frozen BK116.out 4
              have hfz31_5 := blk_frozen BK116.out 5
              have hfz31_6 := blk_frozen BK116.out 6
              have hfz31_7 := blk_frozen BK116.out 7
              have hfz31_8 := blk_frozen BK116.out 8
              have hfz31_9 := blk_frozen BK116.out 9
              go_wp2_with (first | ((with_reducible refine gate_callee (f := 57) rfl ?_); refine goesL_ (some 44) rfl rfl Try.func57 (by kernel_rfl) rfl #[.int .i64 a0_4, .int .i64 a0_4] rfl (by (try simp only [List.map_toArray, List.map_cons, List.map_nil]); first | done | rfl | (simp only [List.length_drop, List.length_take]; rfl)) ?_; (with_reducible refine (rights_Sub.calls a0_4 a0_4 true _ A18.out).mono ?_); rintro e w' ⟨rfl, ⟨nd, rfl⟩⟩; refine ⟨_, rfl, ?_⟩) | (go_at_call 56; (with_reducible refine (rec_in.calls a0_5 0 4294967295 true _ A20.out).mono ?_); rintro e w' ⟨rfl, ⟨nd, rfl⟩⟩) | (go_at_call 56; (with_reducible refine (rec_in.calls a0_7 0 268435455 false _ A22.out).mono ?_); rintro e w' ⟨rfl, ⟨nd, rfl⟩⟩))
              go_ret
              exact ⟨by first | rfl | (simp [errW_none, errW_some] <;> rfl) | (simp [*, errW_none, errW_some] <;> rfl), by repeat (first | (with_reducible first | exact HB.out | apply below_alloc | apply pw_below_drewN | apply below_drew1 | refine below_set ?_ GE116.out) | exact HB.out)⟩
          · replace c21 := Bool.eq_false_iff.mpr c21
            subst c21
            have H1 : (some false) = some r := by rw [if_neg (show ¬ (false = true) by decide)] at H; exact H
            clear H
            have H := H1
            clear H1
            obtain rfl := Option.some.inj H
            have hcz32_0 : wc.cell? ⟨gb116, 0, none⟩ = some (.int .i64 a0_0) := (blk_cell BK116.out 0).trans rfl
            have hcz32_1 : wc.cell? ⟨gb116, 1, none⟩ = some (.int .i64 a0_1) := (blk_cell BK116.out 1).trans rfl
            have hcz32_2 : wc.cell? ⟨gb116, 2, none⟩ = some (.int .i64 a0_2) := (blk_cell BK116.out 2).trans rfl
            have hcz32_3 : wc.cell? ⟨gb116, 3, none⟩ = some (.int .i64 a0_3) := (blk_cell BK116.out 3).trans rfl
            have hcz32_4 : wc.cell? ⟨gb116, 4, none⟩ = some (.int .i64 a0_4) := (blk_cell BK116.out 4).trans rfl
            have hcz32_5 : wc.cell? ⟨gb116, 5, none⟩ = some (.int .i64 a0_5) := (blk_cell BK116.out 5).trans rfl
            have hcz32_6 : wc.cell? ⟨gb116, 6, none⟩ = some (.int .i64 a0_6) := (blk_cell BK116.out 6).trans rfl
            have hcz32_7 : wc.cell? ⟨gb116, 7, none⟩ = some (.int .i64 a0_7) := (blk_cell BK116.out 7).trans rfl
            have hcz32_8 : wc.cell? ⟨gb116, 8, none⟩ = some (.int .i64 a0_8) := (blk_cell BK116.out 8).trans rfl
            have hcz32_9 : wc.cell? ⟨gb116, 9, none⟩ = some (.bool a0_9) := (blk_cell BK116.out 9).trans rfl
            have hfz32_0 := blk_frozen BK116.out 0
            have hfz32_1 := blk_frozen BK116.out 1
            have hfz32_2 := blk_frozen BK116.out 2
            have hfz32_3 := blk_frozen BK116.out 3
            have hfz32_4 := blk_frozen BK116.out 4
            have hfz32_5 := blk_frozen BK116.out 5
            have hfz32_6 := blk_frozen BK116.out 6
            have hfz32_7 := blk_frozen BK116.out 7
            have hfz32_8 := blk_frozen BK116.out 8
            have hfz32_9 := blk_frozen BK116.out 9
            go_wp2_with (first | ((with_reducible refine gate_callee (f := 57) rfl ?_); refine goesL_ (some 44) rfl rfl Try.func57 (by kernel_rfl) rfl #[.int .i64 a0_4, .int .i64 a0_4] rfl (by (try simp only [List.map_toArray, List.map_cons, List.map_nil]); first | done | rfl | (simp only [List.length_drop, List.length_take]; rfl)) ?_; (with_reducible refine (rights_Sub.calls a0_4 a0_4 true _ A18.out).mono ?_); rintro e w' ⟨rfl, ⟨nd, rfl⟩⟩; refine ⟨_, rfl, ?_⟩) | (go_at_call 56; (with_reducible refine (rec_in.calls a0_5 0 4294967295 false _ A20.out).mono ?_); rintro e w' ⟨rfl, ⟨nd, rfl⟩⟩))
            go_ret
            exact ⟨by first | rfl | (simp [errW_none, errW_some] <;> rfl) | (simp [*, errW_none, errW_some] <;> rfl), by repeat (first | (with_reducible first | exact HB.out | apply below_alloc | apply pw_below_drewN | apply below_drew1 | refine below_set ?_ GE116.out) | exact HB.out)⟩
        · replace c19 := Bool.eq_false_iff.mpr c19
          subst c19
          have H1 : (some false) = some r := by rw [if_neg (show ¬ (false = true) by decide)] at H; exact H
          clear H
          have H := H1
          clear H1
          obtain rfl := Option.some.inj H
          have hcz33_0 : wc.cell? ⟨gb116, 0, none⟩ = some (.int .i64 a0_0) := (blk_cell BK116.out 0).trans rfl
          have hcz33_1 : wc.cell? ⟨gb116, 1, none⟩ = some (.int .i64 a0_1) := (blk_cell BK116.out 1).trans rfl
          have hcz33_2 : wc.cell? ⟨gb116, 2, none⟩ = some (.int .i64 a0_2) := (blk_cell BK116.out 2).trans rfl
          have hcz33_3 : wc.cell? ⟨gb116, 3, none⟩ = some (.int .i64 a0_3) := (blk_cell BK116.out 3).trans rfl
          have hcz33_4 : wc.cell? ⟨gb116, 4, none⟩ = some (.int .i64 a0_4) := (blk_cell BK116.out 4).trans rfl
          have hcz33_5 : wc.cell? ⟨gb116, 5, none⟩ = some (.int .i64 a0_5) := (blk_cell BK116.out 5).trans rfl
          have hcz33_6 : wc.cell? ⟨gb116, 6, none⟩ = some (.int .i64 a0_6) := (blk_cell BK116.out 6).trans rfl
          have hcz33_7 : wc.cell? ⟨gb116, 7, none⟩ = some (.int .i64 a0_7) := (blk_cell BK116.out 7).trans rfl
          have hcz33_8 : wc.cell? ⟨gb116, 8, none⟩ = some (.int .i64 a0_8) := (blk_cell BK116.out 8).trans rfl
          have hcz33_9 : wc.cell? ⟨gb116, 9, none⟩ = some (.bool a0_9) := (blk_cell BK116.out 9).trans rfl
          have hfz33_0 := blk_frozen BK116.out 0
          have hfz33_1 := blk_frozen BK116.out 1
          have hfz33_2 := blk_frozen BK116.out 2
          have hfz33_3 := blk_frozen BK116.out 3
          have hfz33_4 := blk_frozen BK116.out 4
          have hfz33_5 := blk_frozen BK116.out 5
          have hfz33_6 := blk_frozen BK116.out 6
          have hfz33_7 := blk_frozen BK116.out 7
          have hfz33_8 := blk_frozen BK116.out 8
          have hfz33_9 := blk_frozen BK116.out 9
          go_wp2_with (first | ((with_reducible refine gate_callee (f := 57) rfl ?_); refine goesL_ (some 44) rfl rfl Try.func57 (by kernel_rfl) rfl #[.int .i64 a0_4, .int .i64 a0_4] rfl (by (try simp only [List.map_toArray, List.map_cons, List.map_nil]); first | done | rfl | (simp only [List.length_drop, List.length_take]; rfl)) ?_; (with_reducible refine (rights_Sub.calls a0_4 a0_4 false _ A18.out).mono ?_); rintro e w' ⟨rfl, ⟨nd, rfl⟩⟩; refine ⟨_, rfl, ?_⟩))
          go_ret
          exact ⟨by first | rfl | (simp [errW_none, errW_some] <;> rfl) | (simp [*, errW_none, errW_some] <;> rfl), by repeat (first | (with_reducible first | exact HB.out | apply below_alloc | apply pw_below_drewN | apply below_drew1 | refine below_set ?_ GE116.out) | exact HB.out)⟩

/-! ### rec_CapRight: function 12 -/
def rec_CapRight.f (k : Nat) (a0_0 : Int) (a0_1 : Int) (a0_2 : Int) (a0_3 : Int) (a0_4 : Int) (a0_5 : Int) (a0_6 : Int) (a0_7 : Int) (a0_8 : Int) (a0_9 : Bool) : Option (Bool) := (rec_capRecord_right.f k a0_0 a0_1 a0_2 a0_3 a0_4 a0_5 a0_6 a0_7 a0_8 a0_9).bind fun t127 => (some t127)
theorem rec_CapRight.mono : ∀ a0 a1 a2 a3 a4 a5 a6 a7 a8 a9 k, LeO (rec_CapRight.f k a0 a1 a2 a3 a4 a5 a6 a7 a8 a9) (rec_CapRight.f (k + 1) a0 a1 a2 a3 a4 a5 a6 a7 a8 a9) := by
  intro a0 a1 a2 a3 a4 a5 a6 a7 a8 a9 k
  unfold rec_CapRight.f
  repeat' first
      | (with_reducible exact rec_capRecord_right.mono _ _ _ _ _ _ _ _ _ _ _)
      | (with_reducible exact LeO.refl _)
      | (with_reducible exact LeO.none _)
      | (with_reducible refine LeO.ite ?_ ?_)
      | (with_reducible refine LeO.bind ?_ (fun _ => ?_))
      | exact rec_capRecord_right.mono _ _ _ _ _ _ _ _ _ _ _
      | exact LeO.none _
      | refine LeO.ite ?_ ?_
      | refine LeO.bind ?_ (fun _ => ?_)
/-! ### rec_slotRecord_right: function 34 -/
def rec_slotRecord_right.f (a0_0 : Int) (a0_1 : Int) (a0_2 : Int) (a0_3 : Int) : Option (Bool) := (rec_in.f a0_0 1 200).bind fun t129 => (if t129 = true then ((rec_in.f a0_1 0 16777215).bind fun t130 => (if t130 = true then ((rec_in.f a0_2 1 16).bind fun t131 => (if t131 = true then (if a0_1 = 0 then (some true) else (some (decide (a0_2 ≤ 15)))) else (some false))) else (some false))) else (some false))
set_option maxHeartbeats 8000000 in
set_option maxRecDepth 100000 in
theorem rec_slotRecord_right.calls (a0_0 : Int) (a0_1 : Int) (a0_2 : Int) (a0_3 : Int) (r : Bool) (w : World) (h : rec_slotRecord_right.f a0_0 a0_1 a0_2 a0_3 = some r) :
    Calls Try.prog 34 #[.agg #[.int .i64 a0_0, .int .i64 a0_1, .int .i64 a0_2, .int .u64 a0_3]] w fun e w' => e = .returned (.bool r) ∧ Below w.heap.size w w' := by
  have hu77 := Try.underlying77
  have HB := Aside0.mk (Below.refl w.heap.size w)
  have H : ((rec_in.f a0_0 1 200).bind fun t129 => (if t129 = true then ((rec_in.f a0_1 0 16777215).bind fun t130 => (if t130 = true then ((rec_in.f a0_2 1 16).bind fun t131 => (if t131 = true then (if a0_1 = 0 then (some true) else (some (decide (a0_2 ≤ 15)))) else (some false))) else (some false))) else (some false))) = some r := h
  clear h
  replace H := Option.bind_eq_some_iff.mp H
  obtain ⟨t129, A20, H⟩ := H
  replace H : (if t129 = true then ((rec_in.f a0_1 0 16777215).bind fun t130 => (if t130 = true then ((rec_in.f a0_2 1 16).bind fun t131 => (if t131 = true then (if a0_1 = 0 then (some true) else (some (decide (a0_2 ≤ 15)))) else (some false))) else (some false))) else (some false)) = some r := H
  have A2 := Aside0.mk A20
  clear A20
  by_cases c3 : t129 = true
  · subst c3
    have H1 : ((rec_in.f a0_1 0 16777215).bind fun t130 => (if t130 = true then ((rec_in.f a0_2 1 16).bind fun t131 => (if t131 = true then (if a0_1 = 0 then (some true) else (some (decide (a0_2 ≤ 15)))) else (some false))) else (some false))) = some r := by rw [if_pos rfl] at H; exact H
    clear H
    have H := H1
    clear H1
    replace H := Option.bind_eq_some_iff.mp H
    obtain ⟨t130, A40, H⟩ := H
    replace H : (if t130 = true then ((rec_in.f a0_2 1 16).bind fun t131 => (if t131 = true then (if a0_1 = 0 then (some true) else (some (decide (a0_2 ≤ 15)))) else (some false))) else (some false)) = some r := H
    have A4 := Aside0.mk A40
    clear A40
    by_cases c5 : t130 = true
    · subst c5
      have H1 : ((rec_in.f a0_2 1 16).bind fun t131 => (if t131 = true then (if a0_1 = 0 then (some true) else (some (decide (a0_2 ≤ 15)))) else (some false))) = some r := by rw [if_pos rfl] at H; exact H
      clear H
      have H := H1
      clear H1
      replace H := Option.bind_eq_some_iff.mp H
      obtain ⟨t131, A60, H⟩ := H
      replace H : (if t131 = true then (if a0_1 = 0 then (some true) else (some (decide (a0_2 ≤ 15)))) else (some false)) = some r := H
      have A6 := Aside0.mk A60
      clear A60
      by_cases c7 : t131 = true
      · subst c7
        have H1 : (if a0_1 = 0 then (some true) else (some (decide (a0_2 ≤ 15)))) = some r := by rw [if_pos rfl] at H; exact H
        clear H
        have H := H1
        clear H1
        by_cases c8 : a0_1 = 0
        · rw [if_pos c8] at H
          have c8b0 : (a0_1 == 0) = true := beq_iff_eq.mpr c8
          have c8b1 : (a0_1 != 0) = false := bne_eq_false_iff_eq.mpr c8
          clear c8
          obtain rfl := Option.some.inj H
          go_enter Try.func34, Try.ntmps34
          go_wp2_with (first | ((with_reducible refine gate_dst (N := 1) rfl ?_); refine box_event ?hg (N := 1) ?hd (cs := #[.int .i64 a0_0, .int .i64 a0_1, .int .i64 a0_2, .int .u64 a0_3]) (t := 77) ?hr ?_; (case hd => rfl); (case hg => rfl); (case hr => first | (go_simp; done) | (go_simp; rfl)); intro gb128 hg w9 hbox hb; have n0_ := Aside0.mk (below_step (by repeat (first | (with_reducible first | exact HB.out | apply below_alloc | apply pw_below_drewN | apply below_drew1) | exact HB.out)) hb); have n1_ := Aside0.mk (hbox); have n2_ := Aside0.mk ((by rw [hg]; exact (below_size (by repeat (first | (with_reducible first | exact HB.out | apply below_alloc | apply pw_below_drewN | apply below_drew1) | exact HB.out))) : w.heap.size ≤ gb128)); have n3_ := Aside0.mk ((by rw [hg]; exact (below_size (by repeat (first | (with_reducible first | exact HB.out | apply below_alloc | apply pw_below_drewN | apply below_drew1) | exact HB.out))) : w.heap.size ≤ gb128)); clear HB; have HB := n0_; have BK128 := n1_; have GW128 := n2_; have GE128 := n3_; clear n0_ n1_ n2_ n3_; clear hb hbox hg; have hcz10_0 : w9.cell? ⟨gb128, 0, none⟩ = some (.int .i64 a0_0) := (blk_cell BK128.out 0).trans rfl; have hcz10_1 : w9.cell? ⟨gb128, 1, none⟩ = some (.int .i64 a0_1) := (blk_cell BK128.out 1).trans rfl; have hcz10_2 : w9.cell? ⟨gb128, 2, none⟩ = some (.int .i64 a0_2) := (blk_cell BK128.out 2).trans rfl; have hcz10_3 : w9.cell? ⟨gb128, 3, none⟩ = some (.int .u64 a0_3) := (blk_cell BK128.out 3).trans rfl; have hfz10_0 := blk_frozen BK128.out 0; have hfz10_1 := blk_frozen BK128.out 1; have hfz10_2 := blk_frozen BK128.out 2; have hfz10_3 := blk_frozen BK128.out 3) | ((with_reducible refine gate_callee (f := 56) rfl ?_); refine goesL_ (some 6) rfl rfl Try.func56 (by kernel_rfl) rfl #[.int .i64 a0_0, .int .i64 1, .int .i64 200] rfl (by (try simp only [List.map_toArray, List.map_cons, List.map_nil]); first | done | rfl | (simp only [List.length_drop, List.length_take]; rfl)) ?_; (with_reducible refine (rec_in.calls a0_0 1 200 true _ A2.out).mono ?_); rintro e w' ⟨rfl, ⟨nd, rfl⟩⟩; refine ⟨_, rfl, ?_⟩) | (go_at_call 56; (with_reducible refine (rec_in.calls a0_1 0 16777215 true _ A4.out).mono ?_); rintro e w' ⟨rfl, ⟨nd, rfl⟩⟩) | (go_at_call 56; (with_reducible refine (rec_in.calls a0_2 1 16 true _ A6.out).mono ?_); rintro e w' ⟨rfl, ⟨nd, rfl⟩⟩))
          go_ret
          exact ⟨by first | rfl | (simp [errW_none, errW_some] <;> rfl) | (simp [*, errW_none, errW_some] <;> rfl), by repeat (first | (with_reducible first | exact HB.out | apply below_alloc | apply pw_below_drewN | apply below_drew1 | refine below_set ?_ GE128.out) | exact HB.out)⟩
        · rw [if_neg c8] at H
          have c8b0 : (a0_1 == 0) = false := beq_eq_false_iff_ne.mpr c8
          have c8b1 : (a0_1 != 0) = true := bne_iff_ne.mpr c8
          obtain rfl := Option.some.inj H
          go_enter Try.func34, Try.ntmps34
          go_wp2_with (first | ((with_reducible refine gate_dst (N := 1) rfl ?_); refine box_event ?hg (N := 1) ?hd (cs := #[.int .i64 a0_0, .int .i64 a0_1, .int .i64 a0_2, .int .u64 a0_3]) (t := 77) ?hr ?_; (case hd => rfl); (case hg => rfl); (case hr => first | (go_simp; done) | (go_simp; rfl)); intro gb128 hg w11 hbox hb; have n0_ := Aside0.mk (below_step (by repeat (first | (with_reducible first | exact HB.out | apply below_alloc | apply pw_below_drewN | apply below_drew1) | exact HB.out)) hb); have n1_ := Aside0.mk (hbox); have n2_ := Aside0.mk ((by rw [hg]; exact (below_size (by repeat (first | (with_reducible first | exact HB.out | apply below_alloc | apply pw_below_drewN | apply below_drew1) | exact HB.out))) : w.heap.size ≤ gb128)); have n3_ := Aside0.mk ((by rw [hg]; exact (below_size (by repeat (first | (with_reducible first | exact HB.out | apply below_alloc | apply pw_below_drewN | apply below_drew1) | exact HB.out))) : w.heap.size ≤ gb128)); clear HB; have HB := n0_; have BK128 := n1_; have GW128 := n2_; have GE128 := n3_; clear n0_ n1_ n2_ n3_; clear hb hbox hg; have hcz12_0 : w11.cell? ⟨gb128, 0, none⟩ = some (.int .i64 a0_0) := (blk_cell BK128.out 0).trans rfl; have hcz12_1 : w11.cell? ⟨gb128, 1, none⟩ = some (.int .i64 a0_1) := (blk_cell BK128.out 1).trans rfl; have hcz12_2 : w11.cell? ⟨gb128, 2, none⟩ = some (.int .i64 a0_2) := (blk_cell BK128.out 2).trans rfl; have hcz12_3 : w11.cell? ⟨gb128, 3, none⟩ = some (.int .u64 a0_3) := (blk_cell BK128.out 3).trans rfl; have hfz12_0 := blk_frozen BK128.out 0; have hfz12_1 := blk_frozen BK128.out 1; have hfz12_2 := blk_frozen BK128.out 2; have hfz12_3 := blk_frozen BK128.out 3) | ((with_reducible refine gate_callee (f := 56) rfl ?_); refine goesL_ (some 6) rfl rfl Try.func56 (by kernel_rfl) rfl #[.int .i64 a0_0, .int .i64 1, .int .i64 200] rfl (by (try simp only [List.map_toArray, List.map_cons, List.map_nil]); first | done | rfl | (simp only [List.length_drop, List.length_take]; rfl)) ?_; (with_reducible refine (rec_in.calls a0_0 1 200 true _ A2.out).mono ?_); rintro e w' ⟨rfl, ⟨nd, rfl⟩⟩; refine ⟨_, rfl, ?_⟩) | (go_at_call 56; (with_reducible refine (rec_in.calls a0_1 0 16777215 true _ A4.out).mono ?_); rintro e w' ⟨rfl, ⟨nd, rfl⟩⟩) | (go_at_call 56; (with_reducible refine (rec_in.calls a0_2 1 16 true _ A6.out).mono ?_); rintro e w' ⟨rfl, ⟨nd, rfl⟩⟩))
          go_ret
          exact ⟨by first | rfl | (simp [errW_none, errW_some] <;> rfl) | (simp [*, errW_none, errW_some] <;> rfl), by repeat (first | (with_reducible first | exact HB.out | apply below_alloc | apply pw_below_drewN | apply below_drew1 | refine below_set ?_ GE128.out) | exact HB.out)⟩
      · replace c7 := Bool.eq_false_iff.mpr c7
        subst c7
        have H1 : (some false) = some r := by rw [if_neg (show ¬ (false = true) by decide)] at H; exact H
        clear H
        have H := H1
        clear H1
        obtain rfl := Option.some.inj H
        go_enter Try.func34, Try.ntmps34
        go_wp2_with (first | ((with_reducible refine gate_dst (N := 1) rfl ?_); refine box_event ?hg (N := 1) ?hd (cs := #[.int .i64 a0_0, .int .i64 a0_1, .int .i64 a0_2, .int .u64 a0_3]) (t := 77) ?hr ?_; (case hd => rfl); (case hg => rfl); (case hr => first | (go_simp; done) | (go_simp; rfl)); intro gb128 hg w13 hbox hb; have n0_ := Aside0.mk (below_step (by repeat (first | (with_reducible first | exact HB.out | apply below_alloc | apply pw_below_drewN | apply below_drew1) | exact HB.out)) hb); have n1_ := Aside0.mk (hbox); have n2_ := Aside0.mk ((by rw [hg]; exact (below_size (by repeat (first | (with_reducible first | exact HB.out | apply below_alloc | apply pw_below_drewN | apply below_drew1) | exact HB.out))) : w.heap.size ≤ gb128)); have n3_ := Aside0.mk ((by rw [hg]; exact (below_size (by repeat (first | (with_reducible first | exact HB.out | apply below_alloc | apply pw_below_drewN | apply below_drew1) | exact HB.out))) : w.heap.size ≤ gb128)); clear HB; have HB := n0_; have BK128 := n1_; have GW128 := n2_; have GE128 := n3_; clear n0_ n1_ n2_ n3_; clear hb hbox hg; have hcz14_0 : w13.cell? ⟨gb128, 0, none⟩ = some (.int .i64 a0_0) := (blk_cell BK128.out 0).trans rfl; have hcz14_1 : w13.cell? ⟨gb128, 1, none⟩ = some (.int .i64 a0_1) := (blk_cell BK128.out 1).trans rfl; have hcz14_2 : w13.cell? ⟨gb128, 2, none⟩ = some (.int .i64 a0_2) := (blk_cell BK128.out 2).trans rfl; have hcz14_3 : w13.cell? ⟨gb128, 3, none⟩ = some (.int .u64 a0_3) := (blk_cell BK128.out 3).trans rfl; have hfz14_0 := blk_frozen BK128.out 0; have hfz14_1 := blk_frozen BK128.out 1; have hfz14_2 := blk_frozen BK128.out 2; have hfz14_3 := blk_frozen BK128.out 3) | ((with_reducible refine gate_callee (f := 56) rfl ?_); refine goesL_ (some 6) rfl rfl Try.func56 (by kernel_rfl) rfl #[.int .i64 a0_0, .int .i64 1, .int .i64 200] rfl (by (try simp only [List.map_toArray, List.map_cons, List.map_nil]); first | done | rfl | (simp only [List.length_drop, List.length_take]; rfl)) ?_; (with_reducible refine (rec_in.calls a0_0 1 200 true _ A2.out).mono ?_); rintro e w' ⟨rfl, ⟨nd, rfl⟩⟩; refine ⟨_, rfl, ?_⟩) | (go_at_call 56; (with_reducible refine (rec_in.calls a0_1 0 16777215 true _ A4.out).mono ?_); rintro e w' ⟨rfl, ⟨nd, rfl⟩⟩) | (go_at_call 56; (with_reducible refine (rec_in.calls a0_2 1 16 false _ A6.out).mono ?_); rintro e w' ⟨rfl, ⟨nd, rfl⟩⟩))
        go_ret
        exact ⟨by first | rfl | (simp [errW_none, errW_some] <;> rfl) | (simp [*, errW_none, errW_some] <;> rfl), by repeat (first | (with_reducible first | exact HB.out | apply below_alloc | apply pw_below_drewN | apply below_drew1 | refine below_set ?_ GE128.out) | exact HB.out)⟩
    · replace c5 := Bool.eq_false_iff.mpr c5
      subst c5
      have H1 : (some false) = some r := by rw [if_neg (show ¬ (false = true) by decide)] at H; exact H
      clear H
      have H := H1
      clear H1
      obtain rfl := Option.some.inj H
      go_enter Try.func34, Try.ntmps34
      go_wp2_with (first | ((with_reducible refine gate_dst (N := 1) rfl ?_); refine box_event ?hg (N := 1) ?hd (cs := #[.int .i64 a0_0, .int .i64 a0_1, .int .i64 a0_2, .int .u64 a0_3]) (t := 77) ?hr ?_; (case hd => rfl); (case hg => rfl); (case hr => first | (go_simp; done) | (go_simp; rfl)); intro gb128 hg w15 hbox hb; have n0_ := Aside0.mk (below_step (by repeat (first | (with_reducible first | exact HB.out | apply below_alloc | apply pw_below_drewN | apply below_drew1) | exact HB.out)) hb); have n1_ := Aside0.mk (hbox); have n2_ := Aside0.mk ((by rw [hg]; exact (below_size (by repeat (first | (with_reducible first | exact HB.out | apply below_alloc | apply pw_below_drewN | apply below_drew1) | exact HB.out))) : w.heap.size ≤ gb128)); have n3_ := Aside0.mk ((by rw [hg]; exact (below_size (by repeat (first | (with_reducible first | exact HB.out | apply below_alloc | apply pw_below_drewN | apply below_drew1) | exact HB.out))) : w.heap.size ≤ gb128)); clear HB; have HB := n0_; have BK128 := n1_; have GW128 := n2_; have GE128 := n3_; clear n0_ n1_ n2_ n3_; clear hb hbox hg; have hcz16_0 : w15.cell? ⟨gb128, 0, none⟩ = some (.int .i64 a0_0) := (blk_cell BK128.out 0).trans rfl; have hcz16_1 : w15.cell? ⟨gb128, 1, none⟩ = some (.int .i64 a0_1) := (blk_cell BK128.out 1).trans rfl; have hcz16_2 : w15.cell? ⟨gb128, 2, none⟩ = some (.int .i64 a0_2) := (blk_cell BK128.out 2).trans rfl; have hcz16_3 : w15.cell? ⟨gb128, 3, none⟩ = some (.int .u64 a0_3) := (blk_cell BK128.out 3).trans rfl; have hfz16_0 := blk_frozen BK128.out 0; have hfz16_1 := blk_frozen BK128.out 1; have hfz16_2 := blk_frozen BK128.out 2; have hfz16_3 := blk_frozen BK128.out 3) | ((with_reducible refine gate_callee (f := 56) rfl ?_); refine goesL_ (some 6) rfl rfl Try.func56 (by kernel_rfl) rfl #[.int .i64 a0_0, .int .i64 1, .int .i64 200] rfl (by (try simp only [List.map_toArray, List.map_cons, List.map_nil]); first | done | rfl | (simp only [List.length_drop, List.length_take]; rfl)) ?_; (with_reducible refine (rec_in.calls a0_0 1 200 true _ A2.out).mono ?_); rintro e w' ⟨rfl, ⟨nd, rfl⟩⟩; refine ⟨_, rfl, ?_⟩) | (go_at_call 56; (with_reducible refine (rec_in.calls a0_1 0 16777215 false _ A4.out).mono ?_); rintro e w' ⟨rfl, ⟨nd, rfl⟩⟩))
      go_ret
      exact ⟨by first | rfl | (simp [errW_none, errW_some] <;> rfl) | (simp [*, errW_none, errW_some] <;> rfl), by repeat (first | (with_reducible first | exact HB.out | apply below_alloc | apply pw_below_drewN | apply below_drew1 | refine below_set ?_ GE128.out) | exact HB.out)⟩
  · replace c3 := Bool.eq_false_iff.mpr c3
    subst c3
    have H1 : (some false) = some r := by rw [if_neg (show ¬ (false = true) by decide)] at H; exact H
    clear H
    have H := H1
    clear H1
    obtain rfl := Option.some.inj H
    go_enter Try.func34, Try.ntmps34
    go_wp2_with (first | ((with_reducible refine gate_dst (N := 1) rfl ?_); refine box_event ?hg (N := 1) ?hd (cs := #[.int .i64 a0_0, .int .i64 a0_1, .int .i64 a0_2, .int .u64 a0_3]) (t := 77) ?hr ?_; (case hd => rfl); (case hg => rfl); (case hr => first | (go_simp; done) | (go_simp; rfl)); intro gb128 hg w17 hbox hb; have n0_ := Aside0.mk (below_step (by repeat (first | (with_reducible first | exact HB.out | apply below_alloc | apply pw_below_drewN | apply below_drew1) | exact HB.out)) hb); have n1_ := Aside0.mk (hbox); have n2_ := Aside0.mk ((by rw [hg]; exact (below_size (by repeat (first | (with_reducible first | exact HB.out | apply below_alloc | apply pw_below_drewN | apply below_drew1) | exact HB.out))) : w.heap.size ≤ gb128)); have n3_ := Aside0.mk ((by rw [hg]; exact (below_size (by repeat (first | (with_reducible first | exact HB.out | apply below_alloc | apply pw_below_drewN | apply below_drew1) | exact HB.out))) : w.heap.size ≤ gb128)); clear HB; have HB := n0_; have BK128 := n1_; have GW128 := n2_; have GE128 := n3_; clear n0_ n1_ n2_ n3_; clear hb hbox hg; have hcz18_0 : w17.cell? ⟨gb128, 0, none⟩ = some (.int .i64 a0_0) := (blk_cell BK128.out 0).trans rfl; have hcz18_1 : w17.cell? ⟨gb128, 1, none⟩ = some (.int .i64 a0_1) := (blk_cell BK128.out 1).trans rfl; have hcz18_2 : w17.cell? ⟨gb128, 2, none⟩ = some (.int .i64 a0_2) := (blk_cell BK128.out 2).trans rfl; have hcz18_3 : w17.cell? ⟨gb128, 3, none⟩ = some (.int .u64 a0_3) := (blk_cell BK128.out 3).trans rfl; have hfz18_0 := blk_frozen BK128.out 0; have hfz18_1 := blk_frozen BK128.out 1; have hfz18_2 := blk_frozen BK128.out 2; have hfz18_3 := blk_frozen BK128.out 3) | ((with_reducible refine gate_callee (f := 56) rfl ?_); refine goesL_ (some 6) rfl rfl Try.func56 (by kernel_rfl) rfl #[.int .i64 a0_0, .int .i64 1, .int .i64 200] rfl (by (try simp only [List.map_toArray, List.map_cons, List.map_nil]); first | done | rfl | (simp only [List.length_drop, List.length_take]; rfl)) ?_; (with_reducible refine (rec_in.calls a0_0 1 200 false _ A2.out).mono ?_); rintro e w' ⟨rfl, ⟨nd, rfl⟩⟩; refine ⟨_, rfl, ?_⟩))
    go_ret
    exact ⟨by first | rfl | (simp [errW_none, errW_some] <;> rfl) | (simp [*, errW_none, errW_some] <;> rfl), by repeat (first | (with_reducible first | exact HB.out | apply below_alloc | apply pw_below_drewN | apply below_drew1 | refine below_set ?_ GE128.out) | exact HB.out)⟩

/-! ### rec_SlotRight: function 13 -/
def rec_SlotRight.f (a0_0 : Int) (a0_1 : Int) (a0_2 : Int) (a0_3 : Int) : Option (Bool) := (rec_slotRecord_right.f a0_0 a0_1 a0_2 a0_3).bind fun t133 => (some t133)
-- NOT PRINTED: function 3 (bailiwicklaw14_RecNames)

/-! ### bailiwickref14_in: function 42 -/
def bailiwickref14_in.f (a0 : Int) (a1 : Int) (a2 : Int) : Option (Bool) := if a0 ≥ a1 then (some (decide (a0 ≤ a2))) else (some false)
set_option maxHeartbeats 8000000 in
set_option maxRecDepth 100000 in
theorem bailiwickref14_in.calls (a0 : Int) (a1 : Int) (a2 : Int) (r : Bool) (w : World) (h : bailiwickref14_in.f a0 a1 a2 = some r) :
    Calls Try.prog 42 #[.int .i64 a0, .int .i64 a1, .int .i64 a2] w fun e w' => e = .returned (.bool r) ∧ Drawn0 w w' := by
  have H : (if a0 ≥ a1 then (some (decide (a0 ≤ a2))) else (some false)) = some r := h
  clear h
  by_cases c4 : a0 ≥ a1
  · rw [if_pos c4] at H
    have c4b0 : decide (a1 ≤ a0) = true := decide_eq_true c4
    clear c4
    obtain rfl := Option.some.inj H
    go_enter Try.func42, Try.ntmps42
    go_wp2
    go_ret
    exact ⟨by first | rfl | (simp; done) | (simp [*]; done), by repeat (first | exact Drawn0.refl _ | apply Drawn0.step)⟩
  · rw [if_neg c4] at H
    have c4b0 : decide (a1 ≤ a0) = false := decide_eq_false c4
    clear c4
    obtain rfl := Option.some.inj H
    go_enter Try.func42, Try.ntmps42
    go_wp2
    go_ret
    exact ⟨by first | rfl | (simp; done) | (simp [*]; done), by repeat (first | exact Drawn0.refl _ | apply Drawn0.step)⟩

/-! ### bailiwickref14_SlotRight: function 18 -/
def bailiwickref14_SlotRight.f (a0_0 : Int) (a0_1 : Int) (a0_2 : Int) (a0_3 : Int) : Option (Bool) := (bailiwickref14_in.f a0_0 1 200).bind fun t137 => (if t137 = true then ((bailiwickref14_in.f a0_1 0 16777215).bind fun t138 => (if t138 = true then ((bailiwickref14_in.f a0_2 1 16).bind fun t139 => (if t139 = true then (if a0_2 < 16 then (some true) else (some (a0_1 == 0))) else (some false))) else (some false))) else (some false))
end Go.Proofs.Ytapfidadgafpbaa.P
