-- Written by a program of this session (gp.py), which drives the print with some lines turned. Not trusted: Lean checks it.
import Derived.Test.YtapfidadgafpbaaPx0
import Derived.Test.YtapfidadgafpbaaPx3
import Derived.Test.YtapfidadgafpbaaPx4
namespace Go.Proofs.Ytapfidadgafpbaa.P
open Go.RowKit Go.Proofs.YtapfidadgafpbaaW.PrintWords Go.Proofs.YtapfidadgafpbaaW.PrintLast Go.Proofs.YtapfidadgafpbaaW.PrintMore
attribute [local go_sem] max2_int min2_int max_two min_two max_three min_three max_four min_four emod_u8 emod_u16 emod_u32
set_option linter.unusedVariables false
set_option linter.unusedSimpArgs false

/-! ### bailiwickref14_PutCap: function 20 -/
def bailiwickref14_PutCap.j0 : Nat → ByteArray → Int → Int → Int → Int → Int → Int → Int → Int → Int → Bool → Option (ByteArray × Bool)
  | 0, _, _, _, _, _, _, _, _, _, _, _ => none
  | k + 1, x5, x179000, x179001, x179002, x179003, x179004, x179005, x179006, x179007, x179008, x179009 => (bailiwickref14_put.f k x179001 3).bind fun t180 => ((bailiwickref14_put.f k x179002 3).bind fun t181 => (if t180.size + t181.size ≤ 9223372036854775807 then ((bailiwickref14_put.f k x179003 3).bind fun t182 => (if (t180 ++ t181).size + t182.size ≤ 9223372036854775807 then ((bailiwickref14_put.f k x179004 2).bind fun t183 => (if ((t180 ++ t181) ++ t182).size + t183.size ≤ 9223372036854775807 then ((bailiwickref14_put.f k x179005 4).bind fun t184 => (if (((t180 ++ t181) ++ t182) ++ t183).size + t184.size ≤ 9223372036854775807 then ((bailiwickref14_put.f k x179006 1).bind fun t185 => (if ((((t180 ++ t181) ++ t182) ++ t183) ++ t184).size + t185.size ≤ 9223372036854775807 then ((bailiwickref14_put.f k x179007 4).bind fun t186 => (if (((((t180 ++ t181) ++ t182) ++ t183) ++ t184) ++ t185).size + t186.size ≤ 9223372036854775807 then ((bailiwickref14_put.f k x179008 3).bind fun t187 => (if ((((((t180 ++ t181) ++ t182) ++ t183) ++ t184) ++ t185) ++ t186).size + t187.size ≤ 9223372036854775807 then (if (((((((t180 ++ t181) ++ t182) ++ t183) ++ t184) ++ t185) ++ t186) ++ t187).size + x5.size ≤ 9223372036854775807 then (some ((((((((t180 ++ t181) ++ t182) ++ t183) ++ t184) ++ t185) ++ t186) ++ t187) ++ x5, true)) else (none)) else (none))) else (none))) else (none))) else (none))) else (none))) else (none))) else (none)))
def bailiwickref14_PutCap.f (k : Nat) (a0_0 : Int) (a0_1 : Int) (a0_2 : Int) (a0_3 : Int) (a0_4 : Int) (a0_5 : Int) (a0_6 : Int) (a0_7 : Int) (a0_8 : Int) (a0_9 : Bool) : Option (ByteArray × Bool) := (bailiwickref14_CapRight.f a0_0 a0_1 a0_2 a0_3 a0_4 a0_5 a0_6 a0_7 a0_8 a0_9).bind fun t179 => (if t179 = true then (if a0_9 = true then (bailiwickref14_PutCap.j0 k (⟨#[1]⟩ : ByteArray) a0_0 a0_1 a0_2 a0_3 a0_4 a0_5 a0_6 a0_7 a0_8 a0_9) else (bailiwickref14_PutCap.j0 k (⟨#[0]⟩ : ByteArray) a0_0 a0_1 a0_2 a0_3 a0_4 a0_5 a0_6 a0_7 a0_8 a0_9)) else (some ((⟨#[]⟩ : ByteArray), false)))
theorem bailiwickref14_PutCap.mono_l : ∀ k, (∀ y0 y1 y2 y3 y4 y5 y6 y7 y8 y9 y10, LeO (bailiwickref14_PutCap.j0 k y0 y1 y2 y3 y4 y5 y6 y7 y8 y9 y10) (bailiwickref14_PutCap.j0 (k + 1) y0 y1 y2 y3 y4 y5 y6 y7 y8 y9 y10))
  | 0 => fun _ _ _ _ _ _ _ _ _ _ _ r h => by simp [bailiwickref14_PutCap.j0] at h
  | k + 1 => by
    have ih0 := bailiwickref14_PutCap.mono_l k
    · intro y0 y1 y2 y3 y4 y5 y6 y7 y8 y9 y10
      unfold bailiwickref14_PutCap.j0
      repeat' first
      | (with_reducible exact ih0 _ _ _ _ _ _ _ _ _ _ _)
      | (with_reducible exact bailiwickref14_put.mono _ _ _)
      | (with_reducible exact LeO.refl _)
      | (with_reducible exact LeO.none _)
      | (with_reducible refine LeO.ite ?_ ?_)
      | (with_reducible refine LeO.bind ?_ (fun _ => ?_))
      | exact ih0 _ _ _ _ _ _ _ _ _ _ _
      | exact bailiwickref14_put.mono _ _ _
      | exact LeO.none _
      | refine LeO.ite ?_ ?_
      | refine LeO.bind ?_ (fun _ => ?_)
theorem bailiwickref14_PutCap.mono : ∀ a0 a1 a2 a3 a4 a5 a6 a7 a8 a9 k, LeO (bailiwickref14_PutCap.f k a0 a1 a2 a3 a4 a5 a6 a7 a8 a9) (bailiwickref14_PutCap.f (k + 1) a0 a1 a2 a3 a4 a5 a6 a7 a8 a9) := by
  intro a0 a1 a2 a3 a4 a5 a6 a7 a8 a9 k
  have ih0 := bailiwickref14_PutCap.mono_l k
  unfold bailiwickref14_PutCap.f
  repeat' first
      | (with_reducible exact ih0 _ _ _ _ _ _ _ _ _ _ _)
      | (with_reducible exact bailiwickref14_put.mono _ _ _)
      | (with_reducible exact LeO.refl _)
      | (with_reducible exact LeO.none _)
      | (with_reducible refine LeO.ite ?_ ?_)
      | (with_reducible refine LeO.bind ?_ (fun _ => ?_))
      | exact ih0 _ _ _ _ _ _ _ _ _ _ _
      | exact bailiwickref14_put.mono _ _ _
      | exact LeO.none _
      | refine LeO.ite ?_ ?_
      | refine LeO.bind ?_ (fun _ => ?_)
def bailiwickref14_PutCap.T7 : Bool × List (List Nat × List Nat) := (true, [([], []), ([0], [0]), ([1], [1]), ([], []), ([3], [3]), ([4, 2], [4]), ([2, 5], [2, 5]), ([], []), ([7], [7]), ([8, 5], [8]), ([6, 9], [6, 9]), ([], []), ([11], [11]), ([12, 9], [12]), ([10, 13], [10, 13]), ([], []), ([15], [15]), ([16, 13], [16]), ([14, 17], [14, 17]), ([], []), ([19], [19]), ([20, 17], [20]), ([18, 21], [18, 21]), ([], []), ([23], [23]), ([24, 21], [24]), ([22, 25], [22, 25]), ([], []), ([27], [27]), ([28, 25], [28]), ([26, 29], [26, 29]), ([], []), ([30, 31], [30, 31]), ([32, 29, 0, 1, 2, 3, 4, 5, 6, 7, 8, 9, 10, 11, 12, 13, 14, 15, 16, 17, 18, 19, 20, 21, 22, 23, 24, 25, 26, 27, 28, 29, 30, 31, 32], [32]), ([33, 0, 1, 2, 3, 4, 5, 6, 7, 8, 9, 10, 11, 12, 13, 14, 15, 16, 17, 18, 19, 20, 21, 22, 23, 24, 25, 26, 27, 28, 29, 30, 31, 32, 33], [])])
def bailiwickref14_PutCap.B7 : List Nat := [0, 1, 3, 0, 8, 31, 63, 0, 128, 447, 1023, 0, 2048, 7103, 16383, 0, 32768, 113599, 262143, 0, 524288, 1817535, 4194303, 0, 8388608, 29080511, 67108863, 0, 134217728, 465288127, 1073741823, 0, 4294967295, 8589934591, 17179869183]
theorem bailiwickref14_PutCap.tab7 : rtab .any (opsOf Try.f20 7) = bailiwickref14_PutCap.T7 := by kernel_rfl
theorem bailiwickref14_PutCap.bits7 : waitsOk bailiwickref14_PutCap.T7.2 bailiwickref14_PutCap.B7 = true := by kernel_rfl
set_option maxHeartbeats 8000000 in
set_option maxRecDepth 100000 in
theorem bailiwickref14_PutCap.calls (k : Nat) (a0_0 : Int) (a0_1 : Int) (a0_2 : Int) (a0_3 : Int) (a0_4 : Int) (a0_5 : Int) (a0_6 : Int) (a0_7 : Int) (a0_8 : Int) (a0_9 : Bool) (r1 : ByteArray) (r2 : Bool) (w : World) (h : bailiwickref14_PutCap.f k a0_0 a0_1 a0_2 a0_3 a0_4 a0_5 a0_6 a0_7 a0_8 a0_9 = some (r1, r2)) :
    Calls Try.prog 20 #[.agg #[.int .i64 a0_0, .int .i64 a0_1, .int .i64 a0_2, .int .i64 a0_3, .int .i64 a0_4, .int .i64 a0_5, .int .i64 a0_6, .int .i64 a0_7, .int .i64 a0_8, .bool a0_9]] w fun e w' => e = .returned (.tuple #[.string r1, .bool r2]) ∧ Below w.heap.size w w' := by
  have hu23 := Try.underlying23
  have HB := Aside0.mk (Below.refl w.heap.size w)
  have H : ((bailiwickref14_CapRight.f a0_0 a0_1 a0_2 a0_3 a0_4 a0_5 a0_6 a0_7 a0_8 a0_9).bind fun t179 => (if t179 = true then (if a0_9 = true then (bailiwickref14_PutCap.j0 k (⟨#[1]⟩ : ByteArray) a0_0 a0_1 a0_2 a0_3 a0_4 a0_5 a0_6 a0_7 a0_8 a0_9) else (bailiwickref14_PutCap.j0 k (⟨#[0]⟩ : ByteArray) a0_0 a0_1 a0_2 a0_3 a0_4 a0_5 a0_6 a0_7 a0_8 a0_9)) else (some ((⟨#[]⟩ : ByteArray), false)))) = some (r1, r2) := h
  clear h
  replace H := Option.bind_eq_some_iff.mp H
  obtain ⟨t179, A20, H⟩ := H
  replace H : (if t179 = true then (if a0_9 = true then (bailiwickref14_PutCap.j0 k (⟨#[1]⟩ : ByteArray) a0_0 a0_1 a0_2 a0_3 a0_4 a0_5 a0_6 a0_7 a0_8 a0_9) else (bailiwickref14_PutCap.j0 k (⟨#[0]⟩ : ByteArray) a0_0 a0_1 a0_2 a0_3 a0_4 a0_5 a0_6 a0_7 a0_8 a0_9)) else (some ((⟨#[]⟩ : ByteArray), false))) = some (r1, r2) := H
  have A2 := Aside0.mk A20
  clear A20
  by_cases c3 : t179 = true
  · subst c3
    have H1 : (if a0_9 = true then (bailiwickref14_PutCap.j0 k (⟨#[1]⟩ : ByteArray) a0_0 a0_1 a0_2 a0_3 a0_4 a0_5 a0_6 a0_7 a0_8 a0_9) else (bailiwickref14_PutCap.j0 k (⟨#[0]⟩ : ByteArray) a0_0 a0_1 a0_2 a0_3 a0_4 a0_5 a0_6 a0_7 a0_8 a0_9)) = some (r1, r2) := by rw [if_pos rfl] at H; exact H
    clear H
    have H := H1
    clear H1
    have HC4 := Aside0.mk H
    clear H
    go_enter Try.func20, Try.ntmps20
    go_upto_if 11 with (first | ((with_reducible refine gate_dst (N := 1) rfl ?_); refine box_event ?hg (N := 1) ?hd (cs := #[.int .i64 a0_0, .int .i64 a0_1, .int .i64 a0_2, .int .i64 a0_3, .int .i64 a0_4, .int .i64 a0_5, .int .i64 a0_6, .int .i64 a0_7, .int .i64 a0_8, .bool a0_9]) (t := 23) ?hr ?_; (case hd => rfl); (case hg => rfl); (case hr => first | (go_simp; done) | (go_simp; rfl)); intro gb178 hg w5 hbox hb; have n0_ := Aside0.mk (below_step (by repeat (first | (with_reducible first | exact HB.out | apply below_alloc | apply pw_below_drewN | apply below_drew1) | exact HB.out)) hb); have n1_ := Aside0.mk (hbox); have n2_ := Aside0.mk ((by rw [hg]; exact (below_size (by repeat (first | (with_reducible first | exact HB.out | apply below_alloc | apply pw_below_drewN | apply below_drew1) | exact HB.out))) : w.heap.size ≤ gb178)); have n3_ := Aside0.mk ((by rw [hg]; exact (below_size (by repeat (first | (with_reducible first | exact HB.out | apply below_alloc | apply pw_below_drewN | apply below_drew1) | exact HB.out))) : w.heap.size ≤ gb178)); clear HB; have HB := n0_; have BK178 := n1_; have GW178 := n2_; have GE178 := n3_; clear n0_ n1_ n2_ n3_; clear hb hbox hg; have hcz6_0 : w5.cell? ⟨gb178, 0, none⟩ = some (.int .i64 a0_0) := (blk_cell BK178.out 0).trans rfl; have hcz6_1 : w5.cell? ⟨gb178, 1, none⟩ = some (.int .i64 a0_1) := (blk_cell BK178.out 1).trans rfl; have hcz6_2 : w5.cell? ⟨gb178, 2, none⟩ = some (.int .i64 a0_2) := (blk_cell BK178.out 2).trans rfl; have hcz6_3 : w5.cell? ⟨gb178, 3, none⟩ = some (.int .i64 a0_3) := (blk_cell BK178.out 3).trans rfl; have hcz6_4 : w5.cell? ⟨gb178, 4, none⟩ = some (.int .i64 a0_4) := (blk_cell BK178.out 4).trans rfl; have hcz6_5 : w5.cell? ⟨gb178, 5, none⟩ = some (.int .i64 a0_5) := (blk_cell BK178.out 5).trans rfl; have hcz6_6 : w5.cell? ⟨gb178, 6, none⟩ = some (.int .i64 a0_6) := (blk_cell BK178.out 6).trans rfl; have hcz6_7 : w5.cell? ⟨gb178, 7, none⟩ = some (.int .i64 a0_7) := (blk_cell BK178.out 7).trans rfl; have hcz6_8 : w5.cell? ⟨gb178, 8, none⟩ = some (.int .i64 a0_8) := (blk_cell BK178.out 8).trans rfl; have hcz6_9 : w5.cell? ⟨gb178, 9, none⟩ = some (.bool a0_9) := (blk_cell BK178.out 9).trans rfl; have hfz6_0 := blk_frozen BK178.out 0; have hfz6_1 := blk_frozen BK178.out 1; have hfz6_2 := blk_frozen BK178.out 2; have hfz6_3 := blk_frozen BK178.out 3; have hfz6_4 := blk_frozen BK178.out 4; have hfz6_5 := blk_frozen BK178.out 5; have hfz6_6 := blk_frozen BK178.out 6; have hfz6_7 := blk_frozen BK178.out 7; have hfz6_8 := blk_frozen BK178.out 8; have hfz6_9 := blk_frozen BK178.out 9) | ((with_reducible refine gate_callee (f := 23) rfl ?_); refine goesL_ (some 7) rfl rfl Try.func23 (by kernel_rfl) rfl #[.agg #[.int .i64 a0_0, .int .i64 a0_1, .int .i64 a0_2, .int .i64 a0_3, .int .i64 a0_4, .int .i64 a0_5, .int .i64 a0_6, .int .i64 a0_7, .int .i64 a0_8, .bool a0_9]] rfl (by (try simp only [List.map_toArray, List.map_cons, List.map_nil]); first | done | rfl | (simp only [List.length_drop, List.length_take]; rfl)) ?_; (with_reducible refine (bailiwickref14_CapRight.calls a0_0 a0_1 a0_2 a0_3 a0_4 a0_5 a0_6 a0_7 a0_8 a0_9 true _ A2.out).mono ?_); rintro e w7 ⟨rfl, hb⟩; refine ⟨_, rfl, ?_⟩; have n0_ := Aside0.mk (blk_below (g := gb178) (o := .cells #[.int .i64 a0_0, .int .i64 a0_1, .int .i64 a0_2, .int .i64 a0_3, .int .i64 a0_4, .int .i64 a0_5, .int .i64 a0_6, .int .i64 a0_7, .int .i64 a0_8, .bool a0_9] 23 (0, 0)) (by (with_reducible repeat (first | refine blk_drewN ?_ _ | refine blk_drew ?_ | refine blk_alloc ?_ _)); exact BK178.out) hb); have n1_ := Aside0.mk (below_step (by repeat (first | (with_reducible first | exact HB.out | apply below_alloc | apply pw_below_drewN | apply below_drew1 | refine below_set ?_ GE178.out) | exact HB.out)) hb); clear BK178; clear HB; have BK178 := n0_; have HB := n1_; clear n0_ n1_; (try clear hb); (try clear hb2); (try clear hk); (try clear hi); have hcz8_0 : w7.cell? ⟨gb178, 0, none⟩ = some (.int .i64 a0_0) := (blk_cell BK178.out 0).trans rfl; have hcz8_1 : w7.cell? ⟨gb178, 1, none⟩ = some (.int .i64 a0_1) := (blk_cell BK178.out 1).trans rfl; have hcz8_2 : w7.cell? ⟨gb178, 2, none⟩ = some (.int .i64 a0_2) := (blk_cell BK178.out 2).trans rfl; have hcz8_3 : w7.cell? ⟨gb178, 3, none⟩ = some (.int .i64 a0_3) := (blk_cell BK178.out 3).trans rfl; have hcz8_4 : w7.cell? ⟨gb178, 4, none⟩ = some (.int .i64 a0_4) := (blk_cell BK178.out 4).trans rfl; have hcz8_5 : w7.cell? ⟨gb178, 5, none⟩ = some (.int .i64 a0_5) := (blk_cell BK178.out 5).trans rfl; have hcz8_6 : w7.cell? ⟨gb178, 6, none⟩ = some (.int .i64 a0_6) := (blk_cell BK178.out 6).trans rfl; have hcz8_7 : w7.cell? ⟨gb178, 7, none⟩ = some (.int .i64 a0_7) := (blk_cell BK178.out 7).trans rfl; have hcz8_8 : w7.cell? ⟨gb178, 8, none⟩ = some (.int .i64 a0_8) := (blk_cell BK178.out 8).trans rfl; have hcz8_9 : w7.cell? ⟨gb178, 9, none⟩ = some (.bool a0_9) := (blk_cell BK178.out 9).trans rfl; have hfz8_0 := blk_frozen BK178.out 0; have hfz8_1 := blk_frozen BK178.out 1; have hfz8_2 := blk_frozen BK178.out 2; have hfz8_3 := blk_frozen BK178.out 3; have hfz8_4 := blk_frozen BK178.out 4; have hfz8_5 := blk_frozen BK178.out 5; have hfz8_6 := blk_frozen BK178.out 6; have hfz8_7 := blk_frozen BK178.out 7; have hfz8_8 := blk_frozen BK178.out 8; have hfz8_9 := blk_frozen BK178.out 9))
    (try simp only [Act.put, List.setIfInBounds_toArray, List.set_cons_zero, List.set_cons_succ])
    go_cut [5] (fun v5 wc => ∃ (kq : Nat) (x5_3 : ByteArray), v5 = .string x5_3 ∧ Aside0 (bailiwickref14_PutCap.j0 kq x5_3 a0_0 a0_1 a0_2 a0_3 a0_4 a0_5 a0_6 a0_7 a0_8 a0_9 = some (r1, r2)) ∧ Aside0 (kq ≤ k) ∧ Aside0 (wc.heap[gb178]? = some (.cells #[.int .i64 a0_0, .int .i64 a0_1, .int .i64 a0_2, .int .i64 a0_3, .int .i64 a0_4, .int .i64 a0_5, .int .i64 a0_6, .int .i64 a0_7, .int .i64 a0_8, .bool a0_9] 23 (0, 0))) ∧ Aside0 (Below w.heap.size w wc))
    case first =>
      have H := HC4.out
      clear HC4
      by_cases c9 : a0_9 = true
      · subst c9
        have H1 : (bailiwickref14_PutCap.j0 k (⟨#[1]⟩ : ByteArray) a0_0 a0_1 a0_2 a0_3 a0_4 a0_5 a0_6 a0_7 a0_8 true) = some (r1, r2) := by rw [if_pos rfl] at H; exact H
        clear H
        have H := H1
        clear H1
        have H' := Aside0.mk H
        clear H
        go_wp2
        go_meet
        case rel => exact ⟨_, ((⟨#[1]⟩ : ByteArray)), (by first | rfl | (simp; done) | (simp [*]; done)), H', ⟨by first | omega | exact Nat.le_refl _⟩, ⟨by (with_reducible repeat (first | refine blk_drewN ?_ _ | refine blk_drew ?_ | refine blk_alloc ?_ _)); exact BK178.out⟩, ⟨by repeat (first | (with_reducible first | exact HB.out | apply below_alloc | apply pw_below_drewN | apply below_drew1 | refine below_set ?_ GE178.out) | exact HB.out)⟩⟩
      · replace c9 := Bool.eq_false_iff.mpr c9
        subst c9
        have H1 : (bailiwickref14_PutCap.j0 k (⟨#[0]⟩ : ByteArray) a0_0 a0_1 a0_2 a0_3 a0_4 a0_5 a0_6 a0_7 a0_8 false) = some (r1, r2) := by rw [if_neg (show ¬ (false = true) by decide)] at H; exact H
        clear H
        have H := H1
        clear H1
        have H' := Aside0.mk H
        clear H
        go_wp2
        go_meet
        case rel => exact ⟨_, ((⟨#[0]⟩ : ByteArray)), (by first | rfl | (simp; done) | (simp [*]; done)), H', ⟨by first | omega | exact Nat.le_refl _⟩, ⟨by (with_reducible repeat (first | refine blk_drewN ?_ _ | refine blk_drew ?_ | refine blk_alloc ?_ _)); exact BK178.out⟩, ⟨by repeat (first | (with_reducible first | exact HB.out | apply below_alloc | apply pw_below_drewN | apply below_drew1 | refine below_set ?_ GE178.out) | exact HB.out)⟩⟩
    case rest =>
      clear HC4
      try clear c2
      try clear p2
      try clear c3
      try clear c9
      try clear hcz6_0
      try clear hcz6_1
      try clear hcz6_2
      try clear hcz6_3
      try clear hcz6_4
      try clear hcz6_5
      try clear hcz6_6
      try clear hcz6_7
      try clear hcz6_8
      try clear hcz6_9
      try clear hcz8_0
      try clear hcz8_1
      try clear hcz8_2
      try clear hcz8_3
      try clear hcz8_4
      try clear hcz8_5
      try clear hcz8_6
      try clear hcz8_7
      try clear hcz8_8
      try clear hcz8_9
      try clear hfz6_0
      try clear hfz6_1
      try clear hfz6_2
      try clear hfz6_3
      try clear hfz6_4
      try clear hfz6_5
      try clear hfz6_6
      try clear hfz6_7
      try clear hfz6_8
      try clear hfz6_9
      try clear hfz8_0
      try clear hfz8_1
      try clear hfz8_2
      try clear hfz8_3
      try clear hfz8_4
      try clear hfz8_5
      try clear hfz8_6
      try clear hfz8_7
      try clear hfz8_8
      try clear hfz8_9
      obtain ⟨kq, x5_3, rfl, HA, HJ3, BK178, HB⟩ := hcut
      cases kq with
      | zero => exact absurd HA.out (by simp [bailiwickref14_PutCap.j0])
      | succ kj3 =>
        have H := HA.out
        clear HA
        simp only [bailiwickref14_PutCap.j0] at H
        replace H := Option.bind_eq_some_iff.mp H
        obtain ⟨t180, A100, H⟩ := H
        replace H : ((bailiwickref14_put.f kj3 a0_2 3).bind fun t181 => (if t180.size + t181.size ≤ 9223372036854775807 then ((bailiwickref14_put.f kj3 a0_3 3).bind fun t182 => (if (t180 ++ t181).size + t182.size ≤ 9223372036854775807 then ((bailiwickref14_put.f kj3 a0_4 2).bind fun t183 => (if ((t180 ++ t181) ++ t182).size + t183.size ≤ 9223372036854775807 then ((bailiwickref14_put.f kj3 a0_5 4).bind fun t184 => (if (((t180 ++ t181) ++ t182) ++ t183).size + t184.size ≤ 9223372036854775807 then ((bailiwickref14_put.f kj3 a0_6 1).bind fun t185 => (if ((((t180 ++ t181) ++ t182) ++ t183) ++ t184).size + t185.size ≤ 9223372036854775807 then ((bailiwickref14_put.f kj3 a0_7 4).bind fun t186 => (if (((((t180 ++ t181) ++ t182) ++ t183) ++ t184) ++ t185).size + t186.size ≤ 9223372036854775807 then ((bailiwickref14_put.f kj3 a0_8 3).bind fun t187 => (if ((((((t180 ++ t181) ++ t182) ++ t183) ++ t184) ++ t185) ++ t186).size + t187.size ≤ 9223372036854775807 then (if (((((((t180 ++ t181) ++ t182) ++ t183) ++ t184) ++ t185) ++ t186) ++ t187).size + x5_3.size ≤ 9223372036854775807 then (some ((((((((t180 ++ t181) ++ t182) ++ t183) ++ t184) ++ t185) ++ t186) ++ t187) ++ x5_3, true)) else (none)) else (none))) else (none))) else (none))) else (none))) else (none))) else (none))) else (none))) = some (r1, r2) := H
        have A10 := Aside0.mk A100
        clear A100
        replace H := Option.bind_eq_some_iff.mp H
        obtain ⟨t181, A110, H⟩ := H
        replace H : (if t180.size + t181.size ≤ 9223372036854775807 then ((bailiwickref14_put.f kj3 a0_3 3).bind fun t182 => (if (t180 ++ t181).size + t182.size ≤ 9223372036854775807 then ((bailiwickref14_put.f kj3 a0_4 2).bind fun t183 => (if ((t180 ++ t181) ++ t182).size + t183.size ≤ 9223372036854775807 then ((bailiwickref14_put.f kj3 a0_5 4).bind fun t184 => (if (((t180 ++ t181) ++ t182) ++ t183).size + t184.size ≤ 9223372036854775807 then ((bailiwickref14_put.f kj3 a0_6 1).bind fun t185 => (if ((((t180 ++ t181) ++ t182) ++ t183) ++ t184).size + t185.size ≤ 9223372036854775807 then ((bailiwickref14_put.f kj3 a0_7 4).bind fun t186 => (if (((((t180 ++ t181) ++ t182) ++ t183) ++ t184) ++ t185).size + t186.size ≤ 9223372036854775807 then ((bailiwickref14_put.f kj3 a0_8 3).bind fun t187 => (if ((((((t180 ++ t181) ++ t182) ++ t183) ++ t184) ++ t185) ++ t186).size + t187.size ≤ 9223372036854775807 then (if (((((((t180 ++ t181) ++ t182) ++ t183) ++ t184) ++ t185) ++ t186) ++ t187).size + x5_3.size ≤ 9223372036854775807 then (some ((((((((t180 ++ t181) ++ t182) ++ t183) ++ t184) ++ t185) ++ t186) ++ t187) ++ x5_3, true)) else (none)) else (none))) else (none))) else (none))) else (none))) else (none))) else (none))) else (none)) = some (r1, r2) := H
        have A11 := Aside0.mk A110
        clear A110
        by_cases c12 : t180.size + t181.size ≤ 9223372036854775807
        · rw [if_pos c12] at H
          have c12b0 := eq_true c12
          have c12b1 : decide (t180.size + t181.size ≤ 9223372036854775807) = true := decide_eq_true c12
          try have c12b2 : (9223372036854775807 < t180.size + t181.size) = False := eq_false (Nat.not_lt.2 c12)
          replace H := Option.bind_eq_some_iff.mp H
          obtain ⟨t182, A130, H⟩ := H
          replace H : (if (t180 ++ t181).size + t182.size ≤ 9223372036854775807 then ((bailiwickref14_put.f kj3 a0_4 2).bind fun t183 => (if ((t180 ++ t181) ++ t182).size + t183.size ≤ 9223372036854775807 then ((bailiwickref14_put.f kj3 a0_5 4).bind fun t184 => (if (((t180 ++ t181) ++ t182) ++ t183).size + t184.size ≤ 9223372036854775807 then ((bailiwickref14_put.f kj3 a0_6 1).bind fun t185 => (if ((((t180 ++ t181) ++ t182) ++ t183) ++ t184).size + t185.size ≤ 9223372036854775807 then ((bailiwickref14_put.f kj3 a0_7 4).bind fun t186 => (if (((((t180 ++ t181) ++ t182) ++ t183) ++ t184) ++ t185).size + t186.size ≤ 9223372036854775807 then ((bailiwickref14_put.f kj3 a0_8 3).bind fun t187 => (if ((((((t180 ++ t181) ++ t182) ++ t183) ++ t184) ++ t185) ++ t186).size + t187.size ≤ 9223372036854775807 then (if (((((((t180 ++ t181) ++ t182) ++ t183) ++ t184) ++ t185) ++ t186) ++ t187).size + x5_3.size ≤ 9223372036854775807 then (some ((((((((t180 ++ t181) ++ t182) ++ t183) ++ t184) ++ t185) ++ t186) ++ t187) ++ x5_3, true)) else (none)) else (none))) else (none))) else (none))) else (none))) else (none))) else (none)) = some (r1, r2) := H
          have A13 := Aside0.mk A130
          clear A130
          by_cases c14 : (t180 ++ t181).size + t182.size ≤ 9223372036854775807
          · rw [if_pos c14] at H
            have c14b0 := eq_true c14
            have c14b1 : decide ((t180 ++ t181).size + t182.size ≤ 9223372036854775807) = true := decide_eq_true c14
            try have c14b2 : (9223372036854775807 < (t180 ++ t181).size + t182.size) = False := eq_false (Nat.not_lt.2 c14)
            try (have c14q := c14; simp only [ByteArray.size_append] at c14q; have c14r := eq_false (Nat.not_lt.2 c14q); have c14s := eq_true c14q)
            replace H := Option.bind_eq_some_iff.mp H
            obtain ⟨t183, A150, H⟩ := H
            replace H : (if ((t180 ++ t181) ++ t182).size + t183.size ≤ 9223372036854775807 then ((bailiwickref14_put.f kj3 a0_5 4).bind fun t184 => (if (((t180 ++ t181) ++ t182) ++ t183).size + t184.size ≤ 9223372036854775807 then ((bailiwickref14_put.f kj3 a0_6 1).bind fun t185 => (if ((((t180 ++ t181) ++ t182) ++ t183) ++ t184).size + t185.size ≤ 9223372036854775807 then ((bailiwickref14_put.f kj3 a0_7 4).bind fun t186 => (if (((((t180 ++ t181) ++ t182) ++ t183) ++ t184) ++ t185).size + t186.size ≤ 9223372036854775807 then ((bailiwickref14_put.f kj3 a0_8 3).bind fun t187 => (if ((((((t180 ++ t181) ++ t182) ++ t183) ++ t184) ++ t185) ++ t186).size + t187.size ≤ 9223372036854775807 then (if (((((((t180 ++ t181) ++ t182) ++ t183) ++ t184) ++ t185) ++ t186) ++ t187).size + x5_3.size ≤ 9223372036854775807 then (some ((((((((t180 ++ t181) ++ t182) ++ t183) ++ t184) ++ t185) ++ t186) ++ t187) ++ x5_3, true)) else (none)) else (none))) else (none))) else (none))) else (none))) else (none)) = some (r1, r2) := H
            have A15 := Aside0.mk A150
            clear A150
            by_cases c16 : ((t180 ++ t181) ++ t182).size + t183.size ≤ 9223372036854775807
            · rw [if_pos c16] at H
              have c16b0 := eq_true c16
              have c16b1 : decide (((t180 ++ t181) ++ t182).size + t183.size ≤ 9223372036854775807) = true := decide_eq_true c16
              try have c16b2 : (9223372036854775807 < ((t180 ++ t181) ++ t182).size + t183.size) = False := eq_false (Nat.not_lt.2 c16)
              try (have c16q := c16; simp only [ByteArray.size_append] at c16q; have c16r := eq_false (Nat.not_lt.2 c16q); have c16s := eq_true c16q)
              replace H := Option.bind_eq_some_iff.mp H
              obtain ⟨t184, A170, H⟩ := H
              replace H : (if (((t180 ++ t181) ++ t182) ++ t183).size + t184.size ≤ 9223372036854775807 then ((bailiwickref14_put.f kj3 a0_6 1).bind fun t185 => (if ((((t180 ++ t181) ++ t182) ++ t183) ++ t184).size + t185.size ≤ 9223372036854775807 then ((bailiwickref14_put.f kj3 a0_7 4).bind fun t186 => (if (((((t180 ++ t181) ++ t182) ++ t183) ++ t184) ++ t185).size + t186.size ≤ 9223372036854775807 then ((bailiwickref14_put.f kj3 a0_8 3).bind fun t187 => (if ((((((t180 ++ t181) ++ t182) ++ t183) ++ t184) ++ t185) ++ t186).size + t187.size ≤ 9223372036854775807 then (if (((((((t180 ++ t181) ++ t182) ++ t183) ++ t184) ++ t185) ++ t186) ++ t187).size + x5_3.size ≤ 9223372036854775807 then (some ((((((((t180 ++ t181) ++ t182) ++ t183) ++ t184) ++ t185) ++ t186) ++ t187) ++ x5_3, true)) else (none)) else (none))) else (none))) else (none))) else (none)) = some (r1, r2) := H
              have A17 := Aside0.mk A170
              clear A170
              by_cases c18 : (((t180 ++ t181) ++ t182) ++ t183).size + t184.size ≤ 9223372036854775807
              · rw [if_pos c18] at H
                have c18b0 := eq_true c18
                have c18b1 : decide ((((t180 ++ t181) ++ t182) ++ t183).size + t184.size ≤ 9223372036854775807) = true := decide_eq_true c18
                try have c18b2 : (9223372036854775807 < (((t180 ++ t181) ++ t182) ++ t183).size + t184.size) = False := eq_false (Nat.not_lt.2 c18)
                try (have c18q := c18; simp only [ByteArray.size_append] at c18q; have c18r := eq_false (Nat.not_lt.2 c18q); have c18s := eq_true c18q)
                replace H := Option.bind_eq_some_iff.mp H
                obtain ⟨t185, A190, H⟩ := H
                replace H : (if ((((t180 ++ t181) ++ t182) ++ t183) ++ t184).size + t185.size ≤ 9223372036854775807 then ((bailiwickref14_put.f kj3 a0_7 4).bind fun t186 => (if (((((t180 ++ t181) ++ t182) ++ t183) ++ t184) ++ t185).size + t186.size ≤ 9223372036854775807 then ((bailiwickref14_put.f kj3 a0_8 3).bind fun t187 => (if ((((((t180 ++ t181) ++ t182) ++ t183) ++ t184) ++ t185) ++ t186).size + t187.size ≤ 9223372036854775807 then (if (((((((t180 ++ t181) ++ t182) ++ t183) ++ t184) ++ t185) ++ t186) ++ t187).size + x5_3.size ≤ 9223372036854775807 then (some ((((((((t180 ++ t181) ++ t182) ++ t183) ++ t184) ++ t185) ++ t186) ++ t187) ++ x5_3, true)) else (none)) else (none))) else (none))) else (none)) = some (r1, r2) := H
                have A19 := Aside0.mk A190
                clear A190
                by_cases c20 : ((((t180 ++ t181) ++ t182) ++ t183) ++ t184).size + t185.size ≤ 9223372036854775807
                · rw [if_pos c20] at H
                  have c20b0 := eq_true c20
                  have c20b1 : decide (((((t180 ++ t181) ++ t182) ++ t183) ++ t184).size + t185.size ≤ 9223372036854775807) = true := decide_eq_true c20
                  try have c20b2 : (9223372036854775807 < ((((t180 ++ t181) ++ t182) ++ t183) ++ t184).size + t185.size) = False := eq_false (Nat.not_lt.2 c20)
                  try (have c20q := c20; simp only [ByteArray.size_append] at c20q; have c20r := eq_false (Nat.not_lt.2 c20q); have c20s := eq_true c20q)
                  replace H := Option.bind_eq_some_iff.mp H
                  obtain ⟨t186, A210, H⟩ := H
                  replace H : (if (((((t180 ++ t181) ++ t182) ++ t183) ++ t184) ++ t185).size + t186.size ≤ 9223372036854775807 then ((bailiwickref14_put.f kj3 a0_8 3).bind fun t187 => (if ((((((t180 ++ t181) ++ t182) ++ t183) ++ t184) ++ t185) ++ t186).size + t187.size ≤ 9223372036854775807 then (if (((((((t180 ++ t181) ++ t182) ++ t183) ++ t184) ++ t185) ++ t186) ++ t187).size + x5_3.size ≤ 9223372036854775807 then (some ((((((((t180 ++ t181) ++ t182) ++ t183) ++ t184) ++ t185) ++ t186) ++ t187) ++ x5_3, true)) else (none)) else (none))) else (none)) = some (r1, r2) := H
                  have A21 := Aside0.mk A210
                  clear A210
                  by_cases c22 : (((((t180 ++ t181) ++ t182) ++ t183) ++ t184) ++ t185).size + t186.size ≤ 9223372036854775807
                  · rw [if_pos c22] at H
                    have c22b0 := eq_true c22
                    have c22b1 : decide ((((((t180 ++ t181) ++ t182) ++ t183) ++ t184) ++ t185).size + t186.size ≤ 9223372036854775807) = true := decide_eq_true c22
                    try have c22b2 : (9223372036854775807 < (((((t180 ++ t181) ++ t182) ++ t183) ++ t184) ++ t185).size + t186.size) = False := eq_false (Nat.not_lt.2 c22)
                    try (have c22q := c22; simp only [ByteArray.size_append] at c22q; have c22r := eq_false (Nat.not_lt.2 c22q); have c22s := eq_true c22q)
                    replace H := Option.bind_eq_some_iff.mp H
                    obtain ⟨t187, A230, H⟩ := H
                    replace H : (if ((((((t180 ++ t181) ++ t182) ++ t183) ++ t184) ++ t185) ++ t186).size + t187.size ≤ 9223372036854775807 then (if (((((((t180 ++ t181) ++ t182) ++ t183) ++ t184) ++ t185) ++ t186) ++ t187).size + x5_3.size ≤ 9223372036854775807 then (some ((((((((t180 ++ t181) ++ t182) ++ t183) ++ t184) ++ t185) ++ t186) ++ t187) ++ x5_3, true)) else (none)) else (none)) = some (r1, r2) := H
                    have A23 := Aside0.mk A230
                    clear A230
                    by_cases c24 : ((((((t180 ++ t181) ++ t182) ++ t183) ++ t184) ++ t185) ++ t186).size + t187.size ≤ 9223372036854775807
                    · rw [if_pos c24] at H
                      have c24b0 := eq_true c24
                      have c24b1 : decide (((((((t180 ++ t181) ++ t182) ++ t183) ++ t184) ++ t185) ++ t186).size + t187.size ≤ 9223372036854775807) = true := decide_eq_true c24
                      try have c24b2 : (9223372036854775807 < ((((((t180 ++ t181) ++ t182) ++ t183) ++ t184) ++ t185) ++ t186).size + t187.size) = False := eq_false (Nat.not_lt.2 c24)
                      try (have c24q := c24; simp only [ByteArray.size_append] at c24q; have c24r := eq_false (Nat.not_lt.2 c24q); have c24s := eq_true c24q)
                      by_cases c25 : (((((((t180 ++ t181) ++ t182) ++ t183) ++ t184) ++ t185) ++ t186) ++ t187).size + x5_3.size ≤ 9223372036854775807
                      · rw [if_pos c25] at H
                        have c25b0 := eq_true c25
                        have c25b1 : decide ((((((((t180 ++ t181) ++ t182) ++ t183) ++ t184) ++ t185) ++ t186) ++ t187).size + x5_3.size ≤ 9223372036854775807) = true := decide_eq_true c25
                        try have c25b2 : (9223372036854775807 < (((((((t180 ++ t181) ++ t182) ++ t183) ++ t184) ++ t185) ++ t186) ++ t187).size + x5_3.size) = False := eq_false (Nat.not_lt.2 c25)
                        try (have c25q := c25; simp only [ByteArray.size_append] at c25q; have c25r := eq_false (Nat.not_lt.2 c25q); have c25s := eq_true c25q)
                        simp only [Option.some.injEq, Prod.mk.injEq] at H
                        obtain ⟨rfl, rfl⟩ := H
                        try go_wp2
                        have n0_ := Aside0.mk (blk_drew BK178.out)
                        have n1_ := Aside0.mk (below_drew1 HB.out)
                        clear BK178
                        clear HB
                        have BK178 := n0_
                        have HB := n1_
                        clear n0_ n1_
                        refine start_ (n := 35) (S := fun w' => w'.cell? ⟨gb178, 0, none⟩ = some (.int .i64 a0_0) ∧ w'.cell? ⟨gb178, 1, none⟩ = some (.int .i64 a0_1) ∧ w'.cell? ⟨gb178, 2, none⟩ = some (.int .i64 a0_2) ∧ w'.cell? ⟨gb178, 3, none⟩ = some (.int .i64 a0_3) ∧ w'.cell? ⟨gb178, 4, none⟩ = some (.int .i64 a0_4) ∧ w'.cell? ⟨gb178, 5, none⟩ = some (.int .i64 a0_5) ∧ w'.cell? ⟨gb178, 6, none⟩ = some (.int .i64 a0_6) ∧ w'.cell? ⟨gb178, 7, none⟩ = some (.int .i64 a0_7) ∧ w'.cell? ⟨gb178, 8, none⟩ = some (.int .i64 a0_8) ∧ w'.cell? ⟨gb178, 9, none⟩ = some (.bool a0_9)) (ds := []) #[false, false, false, false, false, false, false, false, false, false, false, false, false, false, false, false, false, false, false, false, false, false, false, false, false, false, false, false, false, false, false, false, false, false, false] (by kernel_rfl) rfl rfl ⟨(blk_cell BK178.out 0).trans rfl, (blk_cell BK178.out 1).trans rfl, (blk_cell BK178.out 2).trans rfl, (blk_cell BK178.out 3).trans rfl, (blk_cell BK178.out 4).trans rfl, (blk_cell BK178.out 5).trans rfl, (blk_cell BK178.out 6).trans rfl, (blk_cell BK178.out 7).trans rfl, (blk_cell BK178.out 8).trans rfl, (blk_cell BK178.out 9).trans rfl⟩ (fun hHeld => ?_); refine with_tabW bailiwickref14_PutCap.tab7 bailiwickref14_PutCap.bits7 (fun HT_ HW_ => ?_)
                        generalize wc.drew = w26 at BK178 HB hHeld ⊢
                        refine pure_ (i := 0) (N := some 12) (v := ?_) (a' := ?_) #[true, false, false, false, false, false, false, false, false, false, false, false, false, false, false, false, false, false, false, false, false, false, false, false, false, false, false, false, false, false, false, false, false, false, false] rfl rfl (any_of HT_.out (by kernel_rfl)) (fun _ _ _ h => h) (Or.inl ⟨by rfl, ?_⟩) ?_ ?_
                        rotate_left
                        · intro w'
                          go_simp
                          with_reducible rfl
                        rotate_left
                        · simp only [Act.put, List.setIfInBounds_toArray, List.set_cons_zero, List.set_cons_succ, i64_w, i32_w]
                          rfl
                        refine pure_ (i := 3) (N := some 15) (v := ?_) (a' := ?_) #[true, false, false, true, false, false, false, false, false, false, false, false, false, false, false, false, false, false, false, false, false, false, false, false, false, false, false, false, false, false, false, false, false, false, false] rfl rfl (any_of HT_.out (by kernel_rfl)) (fun _ _ _ h => h) (Or.inl ⟨by rfl, ?_⟩) ?_ ?_
                        rotate_left
                        · intro w'
                          go_simp
                          with_reducible rfl
                        rotate_left
                        · simp only [Act.put, List.setIfInBounds_toArray, List.set_cons_zero, List.set_cons_succ, i64_w, i32_w]
                          rfl
                        refine pure_ (i := 7) (N := some 19) (v := ?_) (a' := ?_) #[true, false, false, true, false, false, false, true, false, false, false, false, false, false, false, false, false, false, false, false, false, false, false, false, false, false, false, false, false, false, false, false, false, false, false] rfl rfl (any_of HT_.out (by kernel_rfl)) (fun _ _ _ h => h) (Or.inl ⟨by rfl, ?_⟩) ?_ ?_
                        rotate_left
                        · intro w'
                          go_simp
                          with_reducible rfl
                        rotate_left
                        · simp only [Act.put, List.setIfInBounds_toArray, List.set_cons_zero, List.set_cons_succ, i64_w, i32_w]
                          rfl
                        refine pure_ (i := 11) (N := some 23) (v := ?_) (a' := ?_) #[true, false, false, true, false, false, false, true, false, false, false, true, false, false, false, false, false, false, false, false, false, false, false, false, false, false, false, false, false, false, false, false, false, false, false] rfl rfl (any_of HT_.out (by kernel_rfl)) (fun _ _ _ h => h) (Or.inl ⟨by rfl, ?_⟩) ?_ ?_
                        rotate_left
                        · intro w'
                          go_simp
                          with_reducible rfl
                        rotate_left
                        · simp only [Act.put, List.setIfInBounds_toArray, List.set_cons_zero, List.set_cons_succ, i64_w, i32_w]
                          rfl
                        refine pure_ (i := 15) (N := some 27) (v := ?_) (a' := ?_) #[true, false, false, true, false, false, false, true, false, false, false, true, false, false, false, true, false, false, false, false, false, false, false, false, false, false, false, false, false, false, false, false, false, false, false] rfl rfl (any_of HT_.out (by kernel_rfl)) (fun _ _ _ h => h) (Or.inl ⟨by rfl, ?_⟩) ?_ ?_
                        rotate_left
                        · intro w'
                          go_simp
                          with_reducible rfl
                        rotate_left
                        · simp only [Act.put, List.setIfInBounds_toArray, List.set_cons_zero, List.set_cons_succ, i64_w, i32_w]
                          rfl
                        refine pure_ (i := 19) (N := some 31) (v := ?_) (a' := ?_) #[true, false, false, true, false, false, false, true, false, false, false, true, false, false, false, true, false, false, false, true, false, false, false, false, false, false, false, false, false, false, false, false, false, false, false] rfl rfl (any_of HT_.out (by kernel_rfl)) (fun _ _ _ h => h) (Or.inl ⟨by rfl, ?_⟩) ?_ ?_
                        rotate_left
                        · intro w'
                          go_simp
                          with_reducible rfl
                        rotate_left
                        · simp only [Act.put, List.setIfInBounds_toArray, List.set_cons_zero, List.set_cons_succ, i64_w, i32_w]
                          rfl
                        refine pure_ (i := 23) (N := some 35) (v := ?_) (a' := ?_) #[true, false, false, true, false, false, false, true, false, false, false, true, false, false, false, true, false, false, false, true, false, false, false, true, false, false, false, false, false, false, false, false, false, false, false] rfl rfl (any_of HT_.out (by kernel_rfl)) (fun _ _ _ h => h) (Or.inl ⟨by rfl, ?_⟩) ?_ ?_
                        rotate_left
                        · intro w'
                          go_simp
                          with_reducible rfl
                        rotate_left
                        · simp only [Act.put, List.setIfInBounds_toArray, List.set_cons_zero, List.set_cons_succ, i64_w, i32_w]
                          rfl
                        refine pure_ (i := 27) (N := some 39) (v := ?_) (a' := ?_) #[true, false, false, true, false, false, false, true, false, false, false, true, false, false, false, true, false, false, false, true, false, false, false, true, false, false, false, true, false, false, false, false, false, false, false] rfl rfl (any_of HT_.out (by kernel_rfl)) (fun _ _ _ h => h) (Or.inl ⟨by rfl, ?_⟩) ?_ ?_
                        rotate_left
                        · intro w'
                          go_simp
                          with_reducible rfl
                        rotate_left
                        · simp only [Act.put, List.setIfInBounds_toArray, List.set_cons_zero, List.set_cons_succ, i64_w, i32_w]
                          rfl
                        refine pure_ (i := 31) (N := some 43) (v := ?_) (a' := ?_) #[true, false, false, true, false, false, false, true, false, false, false, true, false, false, false, true, false, false, false, true, false, false, false, true, false, false, false, true, false, false, false, true, false, false, false] rfl rfl (any_of HT_.out (by kernel_rfl)) (fun _ _ _ h => h) (Or.inl ⟨by rfl, ?_⟩) ?_ ?_
                        rotate_left
                        · intro w'
                          go_simp
                          with_reducible rfl
                        rotate_left
                        · simp only [Act.put, List.setIfInBounds_toArray, List.set_cons_zero, List.set_cons_succ, i64_w, i32_w]
                          rfl
                        refine take_ (i := 1) (N := some 13) (v := ?_) (a' := ?_) #[true, true, false, true, false, false, false, true, false, false, false, true, false, false, false, true, false, false, false, true, false, false, false, true, false, false, false, true, false, false, false, true, false, false, false] rfl rfl (take_ofW HT_.out HW_.out (by kernel_rfl)) (fun _ _ _ h => h) (Or.inl ⟨by rfl, ?_⟩) hHeld ?_ ?_
                        rotate_left
                        · rintro w' ⟨s0, s1, s2, s3, s4, s5, s6, s7, s8, s9⟩
                          go_simp
                          with_reducible rfl
                        rotate_left
                        · simp only [Act.put, List.setIfInBounds_toArray, List.set_cons_zero, List.set_cons_succ, i64_w, i32_w]
                          rfl
                        refine take_ (i := 4) (N := some 16) (v := ?_) (a' := ?_) #[true, true, false, true, true, false, false, true, false, false, false, true, false, false, false, true, false, false, false, true, false, false, false, true, false, false, false, true, false, false, false, true, false, false, false] rfl rfl (take_ofW HT_.out HW_.out (by kernel_rfl)) (fun _ _ _ h => h) (Or.inl ⟨by rfl, ?_⟩) hHeld ?_ ?_
                        rotate_left
                        · rintro w' ⟨s0, s1, s2, s3, s4, s5, s6, s7, s8, s9⟩
                          go_simp
                          with_reducible rfl
                        rotate_left
                        · simp only [Act.put, List.setIfInBounds_toArray, List.set_cons_zero, List.set_cons_succ, i64_w, i32_w]
                          rfl
                        refine take_ (i := 8) (N := some 20) (v := ?_) (a' := ?_) #[true, true, false, true, true, false, false, true, true, false, false, true, false, false, false, true, false, false, false, true, false, false, false, true, false, false, false, true, false, false, false, true, false, false, false] rfl rfl (take_ofW HT_.out HW_.out (by kernel_rfl)) (fun _ _ _ h => h) (Or.inl ⟨by rfl, ?_⟩) hHeld ?_ ?_
                        rotate_left
                        · rintro w' ⟨s0, s1, s2, s3, s4, s5, s6, s7, s8, s9⟩
                          go_simp
                          with_reducible rfl
                        rotate_left
                        · simp only [Act.put, List.setIfInBounds_toArray, List.set_cons_zero, List.set_cons_succ, i64_w, i32_w]
                          rfl
                        refine take_ (i := 12) (N := some 24) (v := ?_) (a' := ?_) #[true, true, false, true, true, false, false, true, true, false, false, true, true, false, false, true, false, false, false, true, false, false, false, true, false, false, false, true, false, false, false, true, false, false, false] rfl rfl (take_ofW HT_.out HW_.out (by kernel_rfl)) (fun _ _ _ h => h) (Or.inl ⟨by rfl, ?_⟩) hHeld ?_ ?_
                        rotate_left
                        · rintro w' ⟨s0, s1, s2, s3, s4, s5, s6, s7, s8, s9⟩
                          go_simp
                          with_reducible rfl
                        rotate_left
                        · simp only [Act.put, List.setIfInBounds_toArray, List.set_cons_zero, List.set_cons_succ, i64_w, i32_w]
                          rfl
                        refine take_ (i := 16) (N := some 28) (v := ?_) (a' := ?_) #[true, true, false, true, true, false, false, true, true, false, false, true, true, false, false, true, true, false, false, true, false, false, false, true, false, false, false, true, false, false, false, true, false, false, false] rfl rfl (take_ofW HT_.out HW_.out (by kernel_rfl)) (fun _ _ _ h => h) (Or.inl ⟨by rfl, ?_⟩) hHeld ?_ ?_
                        rotate_left
                        · rintro w' ⟨s0, s1, s2, s3, s4, s5, s6, s7, s8, s9⟩
                          go_simp
                          with_reducible rfl
                        rotate_left
                        · simp only [Act.put, List.setIfInBounds_toArray, List.set_cons_zero, List.set_cons_succ, i64_w, i32_w]
                          rfl
                        refine take_ (i := 20) (N := some 32) (v := ?_) (a' := ?_) #[true, true, false, true, true, false, false, true, true, false, false, true, true, false, false, true, true, false, false, true, true, false, false, true, false, false, false, true, false, false, false, true, false, false, false] rfl rfl (take_ofW HT_.out HW_.out (by kernel_rfl)) (fun _ _ _ h => h) (Or.inl ⟨by rfl, ?_⟩) hHeld ?_ ?_
                        rotate_left
                        · rintro w' ⟨s0, s1, s2, s3, s4, s5, s6, s7, s8, s9⟩
                          go_simp
                          with_reducible rfl
                        rotate_left
                        · simp only [Act.put, List.setIfInBounds_toArray, List.set_cons_zero, List.set_cons_succ, i64_w, i32_w]
                          rfl
                        refine take_ (i := 24) (N := some 36) (v := ?_) (a' := ?_) #[true, true, false, true, true, false, false, true, true, false, false, true, true, false, false, true, true, false, false, true, true, false, false, true, true, false, false, true, false, false, false, true, false, false, false] rfl rfl (take_ofW HT_.out HW_.out (by kernel_rfl)) (fun _ _ _ h => h) (Or.inl ⟨by rfl, ?_⟩) hHeld ?_ ?_
                        rotate_left
                        · rintro w' ⟨s0, s1, s2, s3, s4, s5, s6, s7, s8, s9⟩
                          go_simp
                          with_reducible rfl
                        rotate_left
                        · simp only [Act.put, List.setIfInBounds_toArray, List.set_cons_zero, List.set_cons_succ, i64_w, i32_w]
                          rfl
                        refine take_ (i := 28) (N := some 40) (v := ?_) (a' := ?_) #[true, true, false, true, true, false, false, true, true, false, false, true, true, false, false, true, true, false, false, true, true, false, false, true, true, false, false, true, true, false, false, true, false, false, false] rfl rfl (take_ofW HT_.out HW_.out (by kernel_rfl)) (fun _ _ _ h => h) (Or.inl ⟨by rfl, ?_⟩) hHeld ?_ ?_
                        rotate_left
                        · rintro w' ⟨s0, s1, s2, s3, s4, s5, s6, s7, s8, s9⟩
                          go_simp
                          with_reducible rfl
                        rotate_left
                        · simp only [Act.put, List.setIfInBounds_toArray, List.set_cons_zero, List.set_cons_succ, i64_w, i32_w]
                          rfl
                        refine one_ (i := 2) (N := some 14) #[true, true, true, true, true, false, false, true, true, false, false, true, true, false, false, true, true, false, false, true, true, false, false, true, true, false, false, true, true, false, false, true, false, false, false] rfl rfl (one_of HT_.out (by kernel_rfl)) (by decide) (fun K hK => ?_)
                        refine goes_ Try.func36 (by kernel_rfl) rfl #[.int .i64 a0_1, .int .i64 3] (by rfl) rfl rfl (by (try simp only [List.map_toArray, List.map_cons, List.map_nil]); first | done | rfl | (simp only [List.length_drop, List.length_take]; rfl)) ?_
                        with_reducible refine (bailiwickref14_put.calls kj3 a0_1 3 t180 _ A10.out).mono ?_
                        rintro e w27 ⟨rfl, hb⟩
                        refine ⟨_, rfl, ?_⟩
                        have n0_ := Aside0.mk (blk_below (g := gb178) (o := .cells #[.int .i64 a0_0, .int .i64 a0_1, .int .i64 a0_2, .int .i64 a0_3, .int .i64 a0_4, .int .i64 a0_5, .int .i64 a0_6, .int .i64 a0_7, .int .i64 a0_8, .bool a0_9] 23 (0, 0)) (by (with_reducible repeat (first | refine blk_drewN ?_ _ | refine blk_drew ?_ | refine blk_alloc ?_ _)); exact BK178.out) hb)
                        have n1_ := Aside0.mk (below_step (by repeat (first | (with_reducible first | exact HB.out | apply below_alloc | apply pw_below_drewN | apply below_drew1 | refine below_set ?_ GE178.out) | exact HB.out)) hb)
                        clear BK178
                        clear HB
                        have BK178 := n0_
                        have HB := n1_
                        clear n0_ n1_
                        (try clear hb)
                        (try clear hb2)
                        (try clear hk)
                        (try clear hi)
                        refine hK.out _ _ ⟨(blk_cell BK178.out 0).trans rfl, (blk_cell BK178.out 1).trans rfl, (blk_cell BK178.out 2).trans rfl, (blk_cell BK178.out 3).trans rfl, (blk_cell BK178.out 4).trans rfl, (blk_cell BK178.out 5).trans rfl, (blk_cell BK178.out 6).trans rfl, (blk_cell BK178.out 7).trans rfl, (blk_cell BK178.out 8).trans rfl, (blk_cell BK178.out 9).trans rfl⟩ (fun hHeld => ?_)
                        clear hK K
                        refine norm_ (a' := ?_) ?_ ?_
                        rotate_left
                        · show Act.put _ (some 14) _ = _
                          simp only [Act.put, List.setIfInBounds_toArray, List.set_cons_zero, List.set_cons_succ, i64_w, i32_w]
                          rfl
                        refine one_ (i := 5) (N := some 17) #[true, true, true, true, true, true, false, true, true, false, false, true, true, false, false, true, true, false, false, true, true, false, false, true, true, false, false, true, true, false, false, true, false, false, false] rfl rfl (one_of HT_.out (by kernel_rfl)) (by decide) (fun K hK => ?_)
                        refine goes_ Try.func36 (by kernel_rfl) rfl #[.int .i64 a0_2, .int .i64 3] (by rfl) rfl rfl (by (try simp only [List.map_toArray, List.map_cons, List.map_nil]); first | done | rfl | (simp only [List.length_drop, List.length_take]; rfl)) ?_
                        with_reducible refine (bailiwickref14_put.calls kj3 a0_2 3 t181 _ A11.out).mono ?_
                        rintro e w28 ⟨rfl, hb⟩
                        refine ⟨_, rfl, ?_⟩
                        have n0_ := Aside0.mk (blk_below (g := gb178) (o := .cells #[.int .i64 a0_0, .int .i64 a0_1, .int .i64 a0_2, .int .i64 a0_3, .int .i64 a0_4, .int .i64 a0_5, .int .i64 a0_6, .int .i64 a0_7, .int .i64 a0_8, .bool a0_9] 23 (0, 0)) (by (with_reducible repeat (first | refine blk_drewN ?_ _ | refine blk_drew ?_ | refine blk_alloc ?_ _)); exact BK178.out) hb)
                        have n1_ := Aside0.mk (below_step (by repeat (first | (with_reducible first | exact HB.out | apply below_alloc | apply pw_below_drewN | apply below_drew1 | refine below_set ?_ GE178.out) | exact HB.out)) hb)
                        clear BK178
                        clear HB
                        have BK178 := n0_
                        have HB := n1_
                        clear n0_ n1_
                        (try clear hb)
                        (try clear hb2)
                        (try clear hk)
                        (try clear hi)
                        refine hK.out _ _ ⟨(blk_cell BK178.out 0).trans rfl, (blk_cell BK178.out 1).trans rfl, (blk_cell BK178.out 2).trans rfl, (blk_cell BK178.out 3).trans rfl, (blk_cell BK178.out 4).trans rfl, (blk_cell BK178.out 5).trans rfl, (blk_cell BK178.out 6).trans rfl, (blk_cell BK178.out 7).trans rfl, (blk_cell BK178.out 8).trans rfl, (blk_cell BK178.out 9).trans rfl⟩ (fun hHeld => ?_)
                        clear hK K
                        refine norm_ (a' := ?_) ?_ ?_
                        rotate_left
                        · show Act.put _ (some 17) _ = _
                          simp only [Act.put, List.setIfInBounds_toArray, List.set_cons_zero, List.set_cons_succ, i64_w, i32_w]
                          rfl
                        refine pure_ (i := 6) (N := some 18) (v := ?_) (a' := ?_) #[true, true, true, true, true, true, true, true, true, false, false, true, true, false, false, true, true, false, false, true, true, false, false, true, true, false, false, true, true, false, false, true, false, false, false] rfl rfl (any_of HT_.out (by kernel_rfl)) (fun _ _ _ h => h) (Or.inl ⟨by rfl, ?_⟩) ?_ ?_
                        rotate_left
                        · intro w'
                          go_simp
                          with_reducible rfl
                        rotate_left
                        · simp only [Act.put, List.setIfInBounds_toArray, List.set_cons_zero, List.set_cons_succ, i64_w, i32_w]
                          rfl
                        refine one_ (i := 9) (N := some 21) #[true, true, true, true, true, true, true, true, true, true, false, true, true, false, false, true, true, false, false, true, true, false, false, true, true, false, false, true, true, false, false, true, false, false, false] rfl rfl (one_of HT_.out (by kernel_rfl)) (by decide) (fun K hK => ?_)
                        refine goes_ Try.func36 (by kernel_rfl) rfl #[.int .i64 a0_3, .int .i64 3] (by rfl) rfl rfl (by (try simp only [List.map_toArray, List.map_cons, List.map_nil]); first | done | rfl | (simp only [List.length_drop, List.length_take]; rfl)) ?_
                        with_reducible refine (bailiwickref14_put.calls kj3 a0_3 3 t182 _ A13.out).mono ?_
                        rintro e w29 ⟨rfl, hb⟩
                        refine ⟨_, rfl, ?_⟩
                        have n0_ := Aside0.mk (blk_below (g := gb178) (o := .cells #[.int .i64 a0_0, .int .i64 a0_1, .int .i64 a0_2, .int .i64 a0_3, .int .i64 a0_4, .int .i64 a0_5, .int .i64 a0_6, .int .i64 a0_7, .int .i64 a0_8, .bool a0_9] 23 (0, 0)) (by (with_reducible repeat (first | refine blk_drewN ?_ _ | refine blk_drew ?_ | refine blk_alloc ?_ _)); exact BK178.out) hb)
                        have n1_ := Aside0.mk (below_step (by repeat (first | (with_reducible first | exact HB.out | apply below_alloc | apply pw_below_drewN | apply below_drew1 | refine below_set ?_ GE178.out) | exact HB.out)) hb)
                        clear BK178
                        clear HB
                        have BK178 := n0_
                        have HB := n1_
                        clear n0_ n1_
                        (try clear hb)
                        (try clear hb2)
                        (try clear hk)
                        (try clear hi)
                        refine hK.out _ _ ⟨(blk_cell BK178.out 0).trans rfl, (blk_cell BK178.out 1).trans rfl, (blk_cell BK178.out 2).trans rfl, (blk_cell BK178.out 3).trans rfl, (blk_cell BK178.out 4).trans rfl, (blk_cell BK178.out 5).trans rfl, (blk_cell BK178.out 6).trans rfl, (blk_cell BK178.out 7).trans rfl, (blk_cell BK178.out 8).trans rfl, (blk_cell BK178.out 9).trans rfl⟩ (fun hHeld => ?_)
                        clear hK K
                        refine norm_ (a' := ?_) ?_ ?_
                        rotate_left
                        · show Act.put _ (some 21) _ = _
                          simp only [Act.put, List.setIfInBounds_toArray, List.set_cons_zero, List.set_cons_succ, i64_w, i32_w]
                          rfl
                        refine pure_ (i := 10) (N := some 22) (v := ?_) (a' := ?_) #[true, true, true, true, true, true, true, true, true, true, true, true, true, false, false, true, true, false, false, true, true, false, false, true, true, false, false, true, true, false, false, true, false, false, false] rfl rfl (any_of HT_.out (by kernel_rfl)) (fun _ _ _ h => h) (Or.inl ⟨by rfl, ?_⟩) ?_ ?_
                        rotate_left
                        · intro w'
                          go_simp
                          with_reducible rfl
                        rotate_left
                        · simp only [Act.put, List.setIfInBounds_toArray, List.set_cons_zero, List.set_cons_succ, i64_w, i32_w]
                          rfl
                        refine one_ (i := 13) (N := some 25) #[true, true, true, true, true, true, true, true, true, true, true, true, true, true, false, true, true, false, false, true, true, false, false, true, true, false, false, true, true, false, false, true, false, false, false] rfl rfl (one_of HT_.out (by kernel_rfl)) (by decide) (fun K hK => ?_)
                        refine goes_ Try.func36 (by kernel_rfl) rfl #[.int .i64 a0_4, .int .i64 2] (by rfl) rfl rfl (by (try simp only [List.map_toArray, List.map_cons, List.map_nil]); first | done | rfl | (simp only [List.length_drop, List.length_take]; rfl)) ?_
                        with_reducible refine (bailiwickref14_put.calls kj3 a0_4 2 t183 _ A15.out).mono ?_
                        rintro e w30 ⟨rfl, hb⟩
                        refine ⟨_, rfl, ?_⟩
                        have n0_ := Aside0.mk (blk_below (g := gb178) (o := .cells #[.int .i64 a0_0, .int .i64 a0_1, .int .i64 a0_2, .int .i64 a0_3, .int .i64 a0_4, .int .i64 a0_5, .int .i64 a0_6, .int .i64 a0_7, .int .i64 a0_8, .bool a0_9] 23 (0, 0)) (by (with_reducible repeat (first | refine blk_drewN ?_ _ | refine blk_drew ?_ | refine blk_alloc ?_ _)); exact BK178.out) hb)
                        have n1_ := Aside0.mk (below_step (by repeat (first | (with_reducible first | exact HB.out | apply below_alloc | apply pw_below_drewN | apply below_drew1 | refine below_set ?_ GE178.out) | exact HB.out)) hb)
                        clear BK178
                        clear HB
                        have BK178 := n0_
                        have HB := n1_
                        clear n0_ n1_
                        (try clear hb)
                        (try clear hb2)
                        (try clear hk)
                        (try clear hi)
                        refine hK.out _ _ ⟨(blk_cell BK178.out 0).trans rfl, (blk_cell BK178.out 1).trans rfl, (blk_cell BK178.out 2).trans rfl, (blk_cell BK178.out 3).trans rfl, (blk_cell BK178.out 4).trans rfl, (blk_cell BK178.out 5).trans rfl, (blk_cell BK178.out 6).trans rfl, (blk_cell BK178.out 7).trans rfl, (blk_cell BK178.out 8).trans rfl, (blk_cell BK178.out 9).trans rfl⟩ (fun hHeld => ?_)
                        clear hK K
                        refine norm_ (a' := ?_) ?_ ?_
                        rotate_left
                        · show Act.put _ (some 25) _ = _
                          simp only [Act.put, List.setIfInBounds_toArray, List.set_cons_zero, List.set_cons_succ, i64_w, i32_w]
                          rfl
                        refine pure_ (i := 14) (N := some 26) (v := ?_) (a' := ?_) #[true, true, true, true, true, true, true, true, true, true, true, true, true, true, true, true, true, false, false, true, true, false, false, true, true, false, false, true, true, false, false, true, false, false, false] rfl rfl (any_of HT_.out (by kernel_rfl)) (fun _ _ _ h => h) (Or.inl ⟨by rfl, ?_⟩) ?_ ?_
                        rotate_left
                        · intro w'
                          go_simp
                          with_reducible rfl
                        rotate_left
                        · simp only [Act.put, List.setIfInBounds_toArray, List.set_cons_zero, List.set_cons_succ, i64_w, i32_w]
                          rfl
                        refine one_ (i := 17) (N := some 29) #[true, true, true, true, true, true, true, true, true, true, true, true, true, true, true, true, true, true, false, true, true, false, false, true, true, false, false, true, true, false, false, true, false, false, false] rfl rfl (one_of HT_.out (by kernel_rfl)) (by decide) (fun K hK => ?_)
                        refine goes_ Try.func36 (by kernel_rfl) rfl #[.int .i64 a0_5, .int .i64 4] (by rfl) rfl rfl (by (try simp only [List.map_toArray, List.map_cons, List.map_nil]); first | done | rfl | (simp only [List.length_drop, List.length_take]; rfl)) ?_
                        with_reducible refine (bailiwickref14_put.calls kj3 a0_5 4 t184 _ A17.out).mono ?_
                        rintro e w31 ⟨rfl, hb⟩
                        refine ⟨_, rfl, ?_⟩
                        have n0_ := Aside0.mk (blk_below (g := gb178) (o := .cells #[.int .i64 a0_0, .int .i64 a0_1, .int .i64 a0_2, .int .i64 a0_3, .int .i64 a0_4, .int .i64 a0_5, .int .i64 a0_6, .int .i64 a0_7, .int .i64 a0_8, .bool a0_9] 23 (0, 0)) (by (with_reducible repeat (first | refine blk_drewN ?_ _ | refine blk_drew ?_ | refine blk_alloc ?_ _)); exact BK178.out) hb)
                        have n1_ := Aside0.mk (below_step (by repeat (first | (with_reducible first | exact HB.out | apply below_alloc | apply pw_below_drewN | apply below_drew1 | refine below_set ?_ GE178.out) | exact HB.out)) hb)
                        clear BK178
                        clear HB
                        have BK178 := n0_
                        have HB := n1_
                        clear n0_ n1_
                        (try clear hb)
                        (try clear hb2)
                        (try clear hk)
                        (try clear hi)
                        refine hK.out _ _ ⟨(blk_cell BK178.out 0).trans rfl, (blk_cell BK178.out 1).trans rfl, (blk_cell BK178.out 2).trans rfl, (blk_cell BK178.out 3).trans rfl, (blk_cell BK178.out 4).trans rfl, (blk_cell BK178.out 5).trans rfl, (blk_cell BK178.out 6).trans rfl, (blk_cell BK178.out 7).trans rfl, (blk_cell BK178.out 8).trans rfl, (blk_cell BK178.out 9).trans rfl⟩ (fun hHeld => ?_)
                        clear hK K
                        refine norm_ (a' := ?_) ?_ ?_
                        rotate_left
                        · show Act.put _ (some 29) _ = _
                          simp only [Act.put, List.setIfInBounds_toArray, List.set_cons_zero, List.set_cons_succ, i64_w, i32_w]
                          rfl
                        refine pure_ (i := 18) (N := some 30) (v := ?_) (a' := ?_) #[true, true, true, true, true, true, true, true, true, true, true, true, true, true, true, true, true, true, true, true, true, false, false, true, true, false, false, true, true, false, false, true, false, false, false] rfl rfl (any_of HT_.out (by kernel_rfl)) (fun _ _ _ h => h) (Or.inl ⟨by rfl, ?_⟩) ?_ ?_
                        rotate_left
                        · intro w'
                          go_simp
                          with_reducible rfl
                        rotate_left
                        · simp only [Act.put, List.setIfInBounds_toArray, List.set_cons_zero, List.set_cons_succ, i64_w, i32_w]
                          rfl
                        refine one_ (i := 21) (N := some 33) #[true, true, true, true, true, true, true, true, true, true, true, true, true, true, true, true, true, true, true, true, true, true, false, true, true, false, false, true, true, false, false, true, false, false, false] rfl rfl (one_of HT_.out (by kernel_rfl)) (by decide) (fun K hK => ?_)
                        refine goes_ Try.func36 (by kernel_rfl) rfl #[.int .i64 a0_6, .int .i64 1] (by rfl) rfl rfl (by (try simp only [List.map_toArray, List.map_cons, List.map_nil]); first | done | rfl | (simp only [List.length_drop, List.length_take]; rfl)) ?_
                        with_reducible refine (bailiwickref14_put.calls kj3 a0_6 1 t185 _ A19.out).mono ?_
                        rintro e w32 ⟨rfl, hb⟩
                        refine ⟨_, rfl, ?_⟩
                        have n0_ := Aside0.mk (blk_below (g := gb178) (o := .cells #[.int .i64 a0_0, .int .i64 a0_1, .int .i64 a0_2, .int .i64 a0_3, .int .i64 a0_4, .int .i64 a0_5, .int .i64 a0_6, .int .i64 a0_7, .int .i64 a0_8, .bool a0_9] 23 (0, 0)) (by (with_reducible repeat (first | refine blk_drewN ?_ _ | refine blk_drew ?_ | refine blk_alloc ?_ _)); exact BK178.out) hb)
                        have n1_ := Aside0.mk (below_step (by repeat (first | (with_reducible first | exact HB.out | apply below_alloc | apply pw_below_drewN | apply below_drew1 | refine below_set ?_ GE178.out) | exact HB.out)) hb)
                        clear BK178
                        clear HB
                        have BK178 := n0_
                        have HB := n1_
                        clear n0_ n1_
                        (try clear hb)
                        (try clear hb2)
                        (try clear hk)
                        (try clear hi)
                        refine hK.out _ _ ⟨(blk_cell BK178.out 0).trans rfl, (blk_cell BK178.out 1).trans rfl, (blk_cell BK178.out 2).trans rfl, (blk_cell BK178.out 3).trans rfl, (blk_cell BK178.out 4).trans rfl, (blk_cell BK178.out 5).trans rfl, (blk_cell BK178.out 6).trans rfl, (blk_cell BK178.out 7).trans rfl, (blk_cell BK178.out 8).trans rfl, (blk_cell BK178.out 9).trans rfl⟩ (fun hHeld => ?_)
                        clear hK K
                        refine norm_ (a' := ?_) ?_ ?_
                        rotate_left
                        · show Act.put _ (some 33) _ = _
                          simp only [Act.put, List.setIfInBounds_toArray, List.set_cons_zero, List.set_cons_succ, i64_w, i32_w]
                          rfl
                        refine pure_ (i := 22) (N := some 34) (v := ?_) (a' := ?_) #[true, true, true, true, true, true, true, true, true, true, true, true, true, true, true, true, true, true, true, true, true, true, true, true, true, false, false, true, true, false, false, true, false, false, false] rfl rfl (any_of HT_.out (by kernel_rfl)) (fun _ _ _ h => h) (Or.inl ⟨by rfl, ?_⟩) ?_ ?_
                        rotate_left
                        · intro w'
                          go_simp
                          with_reducible rfl
                        rotate_left
                        · simp only [Act.put, List.setIfInBounds_toArray, List.set_cons_zero, List.set_cons_succ, i64_w, i32_w]
                          rfl
                        refine one_ (i := 25) (N := some 37) #[true, true, true, true, true, true, true, true, true, true, true, true, true, true, true, true, true, true, true, true, true, true, true, true, true, true, false, true, true, false, false, true, false, false, false] rfl rfl (one_of HT_.out (by kernel_rfl)) (by decide) (fun K hK => ?_)
                        refine goes_ Try.func36 (by kernel_rfl) rfl #[.int .i64 a0_7, .int .i64 4] (by rfl) rfl rfl (by (try simp only [List.map_toArray, List.map_cons, List.map_nil]); first | done | rfl | (simp only [List.length_drop, List.length_take]; rfl)) ?_
                        with_reducible refine (bailiwickref14_put.calls kj3 a0_7 4 t186 _ A21.out).mono ?_
                        rintro e w33 ⟨rfl, hb⟩
                        refine ⟨_, rfl, ?_⟩
                        have n0_ := Aside0.mk (blk_below (g := gb178) (o := .cells #[.int .i64 a0_0, .int .i64 a0_1, .int .i64 a0_2, .int .i64 a0_3, .int .i64 a0_4, .int .i64 a0_5, .int .i64 a0_6, .int .i64 a0_7, .int .i64 a0_8, .bool a0_9] 23 (0, 0)) (by (with_reducible repeat (first | refine blk_drewN ?_ _ | refine blk_drew ?_ | refine blk_alloc ?_ _)); exact BK178.out) hb)
                        have n1_ := Aside0.mk (below_step (by repeat (first | (with_reducible first | exact HB.out | apply below_alloc | apply pw_below_drewN | apply below_drew1 | refine below_set ?_ GE178.out) | exact HB.out)) hb)
                        clear BK178
                        clear HB
                        have BK178 := n0_
                        have HB := n1_
                        clear n0_ n1_
                        (try clear hb)
                        (try clear hb2)
                        (try clear hk)
                        (try clear hi)
                        refine hK.out _ _ ⟨(blk_cell BK178.out 0).trans rfl, (blk_cell BK178.out 1).trans rfl, (blk_cell BK178.out 2).trans rfl, (blk_cell BK178.out 3).trans rfl, (blk_cell BK178.out 4).trans rfl, (blk_cell BK178.out 5).trans rfl, (blk_cell BK178.out 6).trans rfl, (blk_cell BK178.out 7).trans rfl, (blk_cell BK178.out 8).trans rfl, (blk_cell BK178.out 9).trans rfl⟩ (fun hHeld => ?_)
                        clear hK K
                        refine norm_ (a' := ?_) ?_ ?_
                        rotate_left
                        · show Act.put _ (some 37) _ = _
                          simp only [Act.put, List.setIfInBounds_toArray, List.set_cons_zero, List.set_cons_succ, i64_w, i32_w]
                          rfl
                        refine pure_ (i := 26) (N := some 38) (v := ?_) (a' := ?_) #[true, true, true, true, true, true, true, true, true, true, true, true, true, true, true, true, true, true, true, true, true, true, true, true, true, true, true, true, true, false, false, true, false, false, false] rfl rfl (any_of HT_.out (by kernel_rfl)) (fun _ _ _ h => h) (Or.inl ⟨by rfl, ?_⟩) ?_ ?_
                        rotate_left
                        · intro w'
                          go_simp
                          with_reducible rfl
                        rotate_left
                        · simp only [Act.put, List.setIfInBounds_toArray, List.set_cons_zero, List.set_cons_succ, i64_w, i32_w]
                          rfl
                        refine one_ (i := 29) (N := some 41) #[true, true, true, true, true, true, true, true, true, true, true, true, true, true, true, true, true, true, true, true, true, true, true, true, true, true, true, true, true, true, false, true, false, false, false] rfl rfl (one_of HT_.out (by kernel_rfl)) (by decide) (fun K hK => ?_)
                        refine goes_ Try.func36 (by kernel_rfl) rfl #[.int .i64 a0_8, .int .i64 3] (by rfl) rfl rfl (by (try simp only [List.map_toArray, List.map_cons, List.map_nil]); first | done | rfl | (simp only [List.length_drop, List.length_take]; rfl)) ?_
                        with_reducible refine (bailiwickref14_put.calls kj3 a0_8 3 t187 _ A23.out).mono ?_
                        rintro e w34 ⟨rfl, hb⟩
                        refine ⟨_, rfl, ?_⟩
                        have n0_ := Aside0.mk (blk_below (g := gb178) (o := .cells #[.int .i64 a0_0, .int .i64 a0_1, .int .i64 a0_2, .int .i64 a0_3, .int .i64 a0_4, .int .i64 a0_5, .int .i64 a0_6, .int .i64 a0_7, .int .i64 a0_8, .bool a0_9] 23 (0, 0)) (by (with_reducible repeat (first | refine blk_drewN ?_ _ | refine blk_drew ?_ | refine blk_alloc ?_ _)); exact BK178.out) hb)
                        have n1_ := Aside0.mk (below_step (by repeat (first | (with_reducible first | exact HB.out | apply below_alloc | apply pw_below_drewN | apply below_drew1 | refine below_set ?_ GE178.out) | exact HB.out)) hb)
                        clear BK178
                        clear HB
                        have BK178 := n0_
                        have HB := n1_
                        clear n0_ n1_
                        (try clear hb)
                        (try clear hb2)
                        (try clear hk)
                        (try clear hi)
                        refine hK.out _ _ ⟨(blk_cell BK178.out 0).trans rfl, (blk_cell BK178.out 1).trans rfl, (blk_cell BK178.out 2).trans rfl, (blk_cell BK178.out 3).trans rfl, (blk_cell BK178.out 4).trans rfl, (blk_cell BK178.out 5).trans rfl, (blk_cell BK178.out 6).trans rfl, (blk_cell BK178.out 7).trans rfl, (blk_cell BK178.out 8).trans rfl, (blk_cell BK178.out 9).trans rfl⟩ (fun hHeld => ?_)
                        clear hK K
                        refine norm_ (a' := ?_) ?_ ?_
                        rotate_left
                        · show Act.put _ (some 41) _ = _
                          simp only [Act.put, List.setIfInBounds_toArray, List.set_cons_zero, List.set_cons_succ, i64_w, i32_w]
                          rfl
                        refine pure_ (i := 30) (N := some 42) (v := ?_) (a' := ?_) #[true, true, true, true, true, true, true, true, true, true, true, true, true, true, true, true, true, true, true, true, true, true, true, true, true, true, true, true, true, true, true, true, false, false, false] rfl rfl (any_of HT_.out (by kernel_rfl)) (fun _ _ _ h => h) (Or.inl ⟨by rfl, ?_⟩) ?_ ?_
                        rotate_left
                        · intro w'
                          go_simp
                          with_reducible rfl
                        rotate_left
                        · simp only [Act.put, List.setIfInBounds_toArray, List.set_cons_zero, List.set_cons_succ, i64_w, i32_w]
                          rfl
                        refine pure_ (i := 32) (N := some 44) (v := ?_) (a' := ?_) #[true, true, true, true, true, true, true, true, true, true, true, true, true, true, true, true, true, true, true, true, true, true, true, true, true, true, true, true, true, true, true, true, true, false, false] rfl rfl (any_of HT_.out (by kernel_rfl)) (fun _ _ _ h => h) (Or.inl ⟨by rfl, ?_⟩) ?_ ?_
                        rotate_left
                        · intro w'
                          go_simp
                          with_reducible rfl
                        rotate_left
                        · simp only [Act.put, List.setIfInBounds_toArray, List.set_cons_zero, List.set_cons_succ, i64_w, i32_w]
                          rfl
                        refine pure_ (i := 33) (N := some 2) (v := ?_) (a' := ?_) #[true, true, true, true, true, true, true, true, true, true, true, true, true, true, true, true, true, true, true, true, true, true, true, true, true, true, true, true, true, true, true, true, true, true, false] rfl rfl (any_of HT_.out (by kernel_rfl)) (fun _ _ _ h => h) (Or.inl ⟨by rfl, ?_⟩) ?_ ?_
                        rotate_left
                        · intro w'
                          go_simp
                          with_reducible rfl
                        rotate_left
                        · simp only [Act.put, List.setIfInBounds_toArray, List.set_cons_zero, List.set_cons_succ, i64_w, i32_w]
                          rfl
                        refine pure_ (i := 34) (N := some 3) (v := ?_) (a' := ?_) #[true, true, true, true, true, true, true, true, true, true, true, true, true, true, true, true, true, true, true, true, true, true, true, true, true, true, true, true, true, true, true, true, true, true, true] rfl rfl (any_of HT_.out (by kernel_rfl)) (fun _ _ _ h => h) (Or.inl ⟨by rfl, ?_⟩) ?_ ?_
                        rotate_left
                        · intro w'
                          go_simp
                          with_reducible rfl
                        rotate_left
                        · simp only [Act.put, List.setIfInBounds_toArray, List.set_cons_zero, List.set_cons_succ, i64_w, i32_w]
                          rfl
                        refine done_ (done_of HT_.out (by kernel_rfl)) ?_
                        try go_wp2
                        go_ret2
                        exact ⟨by first | rfl | (simp [errW_none, errW_some] <;> rfl) | (simp [*, errW_none, errW_some] <;> rfl), by repeat (first | (with_reducible first | exact HB.out | apply below_alloc | apply pw_below_drewN | apply below_drew1 | refine below_set ?_ GE178.out) | exact HB.out)⟩
                      · rw [if_neg c25] at H
                        exact absurd H (by simp)
                    · rw [if_neg c24] at H
                      exact absurd H (by simp)
                  · rw [if_neg c22] at H
                    exact absurd H (by simp)
                · rw [if_neg c20] at H
                  exact absurd H (by simp)
              · rw [if_neg c18] at H
                exact absurd H (by simp)
            · rw [if_neg c16] at H
              exact absurd H (by simp)
          · rw [if_neg c14] at H
            exact absurd H (by simp)
        · rw [if_neg c12] at H
          exact absurd H (by simp)
  · replace c3 := Bool.eq_false_iff.mpr c3
    subst c3
    have H1 : (some ((⟨#[]⟩ : ByteArray), false)) = some (r1, r2) := by rw [if_neg (show ¬ (false = true) by decide)] at H; exact H
    clear H
    have H := H1
    clear H1
    simp only [Option.some.injEq, Prod.mk.injEq] at H
    obtain ⟨rfl, rfl⟩ := H
    go_enter Try.func20, Try.ntmps20
    go_wp2_with (first | ((with_reducible refine gate_dst (N := 1) rfl ?_); refine box_event ?hg (N := 1) ?hd (cs := #[.int .i64 a0_0, .int .i64 a0_1, .int .i64 a0_2, .int .i64 a0_3, .int .i64 a0_4, .int .i64 a0_5, .int .i64 a0_6, .int .i64 a0_7, .int .i64 a0_8, .bool a0_9]) (t := 23) ?hr ?_; (case hd => rfl); (case hg => rfl); (case hr => first | (go_simp; done) | (go_simp; rfl)); intro gb178 hg w35 hbox hb; have n0_ := Aside0.mk (below_step (by repeat (first | (with_reducible first | exact HB.out | apply below_alloc | apply pw_below_drewN | apply below_drew1) | exact HB.out)) hb); have n1_ := Aside0.mk (hbox); have n2_ := Aside0.mk ((by rw [hg]; exact (below_size (by repeat (first | (with_reducible first | exact HB.out | apply below_alloc | apply pw_below_drewN | apply below_drew1) | exact HB.out))) : w.heap.size ≤ gb178)); have n3_ := Aside0.mk ((by rw [hg]; exact (below_size (by repeat (first | (with_reducible first | exact HB.out | apply below_alloc | apply pw_below_drewN | apply below_drew1) | exact HB.out))) : w.heap.size ≤ gb178)); clear HB; have HB := n0_; have BK178 := n1_; have GW178 := n2_; have GE178 := n3_; clear n0_ n1_ n2_ n3_; clear hb hbox hg; have hcz36_0 : w35.cell? ⟨gb178, 0, none⟩ = some (.int .i64 a0_0) := (blk_cell BK178.out 0).trans rfl; have hcz36_1 : w35.cell? ⟨gb178, 1, none⟩ = some (.int .i64 a0_1) := (blk_cell BK178.out 1).trans rfl; have hcz36_2 : w35.cell? ⟨gb178, 2, none⟩ = some (.int .i64 a0_2) := (blk_cell BK178.out 2).trans rfl; have hcz36_3 : w35.cell? ⟨gb178, 3, none⟩ = some (.int .i64 a0_3) := (blk_cell BK178.out 3).trans rfl; have hcz36_4 : w35.cell? ⟨gb178, 4, none⟩ = some (.int .i64 a0_4) := (blk_cell BK178.out 4).trans rfl; have hcz36_5 : w35.cell? ⟨gb178, 5, none⟩ = some (.int .i64 a0_5) := (blk_cell BK178.out 5).trans rfl; have hcz36_6 : w35.cell? ⟨gb178, 6, none⟩ = some (.int .i64 a0_6) := (blk_cell BK178.out 6).trans rfl; have hcz36_7 : w35.cell? ⟨gb178, 7, none⟩ = some (.int .i64 a0_7) := (blk_cell BK178.out 7).trans rfl; have hcz36_8 : w35.cell? ⟨gb178, 8, none⟩ = some (.int .i64 a0_8) := (blk_cell BK178.out 8).trans rfl; have hcz36_9 : w35.cell? ⟨gb178, 9, none⟩ = some (.bool a0_9) := (blk_cell BK178.out 9).trans rfl; have hfz36_0 := blk_frozen BK178.out 0; have hfz36_1 := blk_frozen BK178.out 1; have hfz36_2 := blk_frozen BK178.out 2; have hfz36_3 := blk_frozen BK178.out 3; have hfz36_4 := blk_frozen BK178.out 4; have hfz36_5 := blk_frozen BK178.out 5; have hfz36_6 := blk_frozen BK178.out 6; have hfz36_7 := blk_frozen BK178.out 7; have hfz36_8 := blk_frozen BK178.out 8; have hfz36_9 := blk_frozen BK178.out 9) | ((with_reducible refine gate_callee (f := 23) rfl ?_); refine goesL_ (some 7) rfl rfl Try.func23 (by kernel_rfl) rfl #[.agg #[.int .i64 a0_0, .int .i64 a0_1, .int .i64 a0_2, .int .i64 a0_3, .int .i64 a0_4, .int .i64 a0_5, .int .i64 a0_6, .int .i64 a0_7, .int .i64 a0_8, .bool a0_9]] rfl (by (try simp only [List.map_toArray, List.map_cons, List.map_nil]); first | done | rfl | (simp only [List.length_drop, List.length_take]; rfl)) ?_; (with_reducible refine (bailiwickref14_CapRight.calls a0_0 a0_1 a0_2 a0_3 a0_4 a0_5 a0_6 a0_7 a0_8 a0_9 false _ A2.out).mono ?_); rintro e w37 ⟨rfl, hb⟩; refine ⟨_, rfl, ?_⟩; have n0_ := Aside0.mk (blk_below (g := gb178) (o := .cells #[.int .i64 a0_0, .int .i64 a0_1, .int .i64 a0_2, .int .i64 a0_3, .int .i64 a0_4, .int .i64 a0_5, .int .i64 a0_6, .int .i64 a0_7, .int .i64 a0_8, .bool a0_9] 23 (0, 0)) (by (with_reducible repeat (first | refine blk_drewN ?_ _ | refine blk_drew ?_ | refine blk_alloc ?_ _)); exact BK178.out) hb); have n1_ := Aside0.mk (below_step (by repeat (first | (with_reducible first | exact HB.out | apply below_alloc | apply pw_below_drewN | apply below_drew1 | refine below_set ?_ GE178.out) | exact HB.out)) hb); clear BK178; clear HB; have BK178 := n0_; have HB := n1_; clear n0_ n1_; (try clear hb); (try clear hb2); (try clear hk); (try clear hi)))
    go_ret2
    exact ⟨by first | rfl | (simp [errW_none, errW_some] <;> rfl) | (simp [*, errW_none, errW_some] <;> rfl), by repeat (first | (with_reducible first | exact HB.out | apply below_alloc | apply pw_below_drewN | apply below_drew1 | refine below_set ?_ GE178.out) | exact HB.out)⟩

-- NOT PRINTED: function 21 (rec_TakeCap)

end Go.Proofs.Ytapfidadgafpbaa.P
