-- Written by a program of this session (gp.py), which drives the print with some lines turned. Not trusted: Lean checks it.
import Derived.Test.YtapfidadgafpbaaBd
namespace Go.Proofs.Ytapfidadgafpbaa.B
open Go.RowKit Go.Proofs.YtapfidadgafpbaaW.PrintWords Go.Proofs.YtapfidadgafpbaaW.PrintLast Go.Proofs.YtapfidadgafpbaaW.PrintMore
attribute [local go_sem] max2_int min2_int max_two min_two max_three min_three max_four min_four P.emod_u8 P.emod_u16 P.emod_u32
set_option linter.unusedVariables false
set_option linter.unusedSimpArgs false
attribute [local go_sem high] eqA23 eqA26 eqA34
set_option maxHeartbeats 8000000 in
set_option maxRecDepth 100000 in
theorem bailiwicklaw14_RecBack.calls (k : Nat) (a0_0 : Int) (a0_1 : Int) (a0_2 : Int) (a0_3 : Int) (a0_4 : Int) (a0_5 : Int) (a0_6 : Int) (a0_7 : Int) (a0_8 : Int) (a0_9 : Bool) (a1_0 : Int) (a1_1 : ByteArray) (a1_2 : Int) (a1_3 : Int) (a2_0 : Int) (a2_1 : Int) (a2_2 : Int) (a2_3 : Int) (a3 : ByteArray) (r : Bool) (w : World) (h : bailiwicklaw14_RecBack.f k a0_0 a0_1 a0_2 a0_3 a0_4 a0_5 a0_6 a0_7 a0_8 a0_9 a1_0 a1_1 a1_2 a1_3 a2_0 a2_1 a2_2 a2_3 a3 = some r) (hrp_ : r = true) :
  Calls Try.prog 7 #[.agg #[.int .i64 a0_0, .int .i64 a0_1, .int .i64 a0_2, .int .i64 a0_3, .int .i64 a0_4, .int .i64 a0_5, .int .i64 a0_6, .int .i64 a0_7, .int .i64 a0_8, .bool a0_9], .agg #[.int .i64 a1_0, .string a1_1, .int .i64 a1_2, .int .i64 a1_3], .agg #[.int .i64 a2_0, .int .i64 a2_1, .int .i64 a2_2, .int .u64 a2_3], .string a3] w fun e w' => e = .returned (.bool r) ∧ Below w.heap.size w w' := by
 have hu23 := Try.underlying23
 have hu34 := Try.underlying34
 have hu26 := Try.underlying26
 have HB := Aside0.mk (Below.refl w.heap.size w)
 have H : ((S.bailiwicklaw14_examples.f).bind fun t104 => (if t104 = true then ((G.xPutCap.f a0_0 a0_1 a0_2 a0_3 a0_4 a0_5 a0_6 a0_7 a0_8 a0_9).bind fun bt105 => (if bt105.2 = 0 then ((G.xTakeCap.f a0_0 bt105.1).bind fun bt107 => (if bt105.1.size + a3.size ≤ 9223372036854775807 then ((G.xTakeCap.f a0_0 (bt105.1 ++ a3)).bind fun bt119 => (if 0 ≤ (mx (wrap64 ((bt105.1.size : Int) - 1)) 0) then (if (mx (wrap64 ((bt105.1.size : Int) - 1)) 0) ≤ (bt105.1.size : Int) then ((G.xTakeCap.f a0_0 (bt105.1.extract 0 ((mx (wrap64 ((bt105.1.size : Int) - 1)) 0) : Int).toNat)).bind fun bt131 => (if (!(bt107.1 == a0_0) || (!(bt107.2.1 == a0_1) || (!(bt107.2.2.1 == a0_2) || (!(bt107.2.2.2.1 == a0_3) || (!(bt107.2.2.2.2.1 == a0_4) || (!(bt107.2.2.2.2.2.1 == a0_5) || (!(bt107.2.2.2.2.2.2.1 == a0_6) || (!(bt107.2.2.2.2.2.2.2.1 == a0_7) || (!(bt107.2.2.2.2.2.2.2.2.1 == a0_8) || (!(bt107.2.2.2.2.2.2.2.2.2.1 == a0_9))))))))))) = true then (some false) else (if bt107.2.2.2.2.2.2.2.2.2.2 = 0 then (if ((bt119.2.2.2.2.2.2.2.2.2.2 == 0) != (a3.toList == ([] : List UInt8))) = true then (some false) else (if bt131.2.2.2.2.2.2.2.2.2.2 = 2 then (if (bt105.1.size : Int) > 40 then (some false) else (bailiwicklaw14_RecBack.j0 k a3 t104 a1_0 a1_1 a1_2 a1_3 a2_0 a2_1 a2_2 a2_3)) else (some false))) else (some false)))) else (none)) else (none))) else (none))) else (bailiwicklaw14_RecBack.j0 k a3 t104 a1_0 a1_1 a1_2 a1_3 a2_0 a2_1 a2_2 a2_3))) else (some false))) = some r := h
 clear h
 replace H := Option.bind_eq_some_iff.mp H
 obtain ⟨t104, A50, H⟩ := H
 replace H : (if t104 = true then ((G.xPutCap.f a0_0 a0_1 a0_2 a0_3 a0_4 a0_5 a0_6 a0_7 a0_8 a0_9).bind fun bt105 => (if bt105.2 = 0 then ((G.xTakeCap.f a0_0 bt105.1).bind fun bt107 => (if bt105.1.size + a3.size ≤ 9223372036854775807 then ((G.xTakeCap.f a0_0 (bt105.1 ++ a3)).bind fun bt119 => (if 0 ≤ (mx (wrap64 ((bt105.1.size : Int) - 1)) 0) then (if (mx (wrap64 ((bt105.1.size : Int) - 1)) 0) ≤ (bt105.1.size : Int) then ((G.xTakeCap.f a0_0 (bt105.1.extract 0 ((mx (wrap64 ((bt105.1.size : Int) - 1)) 0) : Int).toNat)).bind fun bt131 => (if (!(bt107.1 == a0_0) || (!(bt107.2.1 == a0_1) || (!(bt107.2.2.1 == a0_2) || (!(bt107.2.2.2.1 == a0_3) || (!(bt107.2.2.2.2.1 == a0_4) || (!(bt107.2.2.2.2.2.1 == a0_5) || (!(bt107.2.2.2.2.2.2.1 == a0_6) || (!(bt107.2.2.2.2.2.2.2.1 == a0_7) || (!(bt107.2.2.2.2.2.2.2.2.1 == a0_8) || (!(bt107.2.2.2.2.2.2.2.2.2.1 == a0_9))))))))))) = true then (some false) else (if bt107.2.2.2.2.2.2.2.2.2.2 = 0 then (if ((bt119.2.2.2.2.2.2.2.2.2.2 == 0) != (a3.toList == ([] : List UInt8))) = true then (some false) else (if bt131.2.2.2.2.2.2.2.2.2.2 = 2 then (if (bt105.1.size : Int) > 40 then (some false) else (bailiwicklaw14_RecBack.j0 k a3 t104 a1_0 a1_1 a1_2 a1_3 a2_0 a2_1 a2_2 a2_3)) else (some false))) else (some false)))) else (none)) else (none))) else (none))) else (bailiwicklaw14_RecBack.j0 k a3 t104 a1_0 a1_1 a1_2 a1_3 a2_0 a2_1 a2_2 a2_3))) else (some false)) = some r := H
 have A5 := Aside0.mk A50
 clear A50
 by_cases c6 : t104 = true
 ·
  subst c6
  have H1 : ((G.xPutCap.f a0_0 a0_1 a0_2 a0_3 a0_4 a0_5 a0_6 a0_7 a0_8 a0_9).bind fun bt105 => (if bt105.2 = 0 then ((G.xTakeCap.f a0_0 bt105.1).bind fun bt107 => (if bt105.1.size + a3.size ≤ 9223372036854775807 then ((G.xTakeCap.f a0_0 (bt105.1 ++ a3)).bind fun bt119 => (if 0 ≤ (mx (wrap64 ((bt105.1.size : Int) - 1)) 0) then (if (mx (wrap64 ((bt105.1.size : Int) - 1)) 0) ≤ (bt105.1.size : Int) then ((G.xTakeCap.f a0_0 (bt105.1.extract 0 ((mx (wrap64 ((bt105.1.size : Int) - 1)) 0) : Int).toNat)).bind fun bt131 => (if (!(bt107.1 == a0_0) || (!(bt107.2.1 == a0_1) || (!(bt107.2.2.1 == a0_2) || (!(bt107.2.2.2.1 == a0_3) || (!(bt107.2.2.2.2.1 == a0_4) || (!(bt107.2.2.2.2.2.1 == a0_5) || (!(bt107.2.2.2.2.2.2.1 == a0_6) || (!(bt107.2.2.2.2.2.2.2.1 == a0_7) || (!(bt107.2.2.2.2.2.2.2.2.1 == a0_8) || (!(bt107.2.2.2.2.2.2.2.2.2.1 == a0_9))))))))))) = true then (some false) else (if bt107.2.2.2.2.2.2.2.2.2.2 = 0 then (if ((bt119.2.2.2.2.2.2.2.2.2.2 == 0) != (a3.toList == ([] : List UInt8))) = true then (some false) else (if bt131.2.2.2.2.2.2.2.2.2.2 = 2 then (if (bt105.1.size : Int) > 40 then (some false) else (bailiwicklaw14_RecBack.j0 k a3 true a1_0 a1_1 a1_2 a1_3 a2_0 a2_1 a2_2 a2_3)) else (some false))) else (some false)))) else (none)) else (none))) else (none))) else (bailiwicklaw14_RecBack.j0 k a3 true a1_0 a1_1 a1_2 a1_3 a2_0 a2_1 a2_2 a2_3))) = some r := by rw [if_pos rfl] at H; exact H
  clear H
  have H := H1
  clear H1
  replace H := Option.bind_eq_some_iff.mp H
  obtain ⟨⟨t105, t106⟩, A70, H⟩ := H
  replace H : (if t106 = 0 then ((G.xTakeCap.f a0_0 t105).bind fun bt107 => (if t105.size + a3.size ≤ 9223372036854775807 then ((G.xTakeCap.f a0_0 (t105 ++ a3)).bind fun bt119 => (if 0 ≤ (mx (wrap64 ((t105.size : Int) - 1)) 0) then (if (mx (wrap64 ((t105.size : Int) - 1)) 0) ≤ (t105.size : Int) then ((G.xTakeCap.f a0_0 (t105.extract 0 ((mx (wrap64 ((t105.size : Int) - 1)) 0) : Int).toNat)).bind fun bt131 => (if (!(bt107.1 == a0_0) || (!(bt107.2.1 == a0_1) || (!(bt107.2.2.1 == a0_2) || (!(bt107.2.2.2.1 == a0_3) || (!(bt107.2.2.2.2.1 == a0_4) || (!(bt107.2.2.2.2.2.1 == a0_5) || (!(bt107.2.2.2.2.2.2.1 == a0_6) || (!(bt107.2.2.2.2.2.2.2.1 == a0_7) || (!(bt107.2.2.2.2.2.2.2.2.1 == a0_8) || (!(bt107.2.2.2.2.2.2.2.2.2.1 == a0_9))))))))))) = true then (some false) else (if bt107.2.2.2.2.2.2.2.2.2.2 = 0 then (if ((bt119.2.2.2.2.2.2.2.2.2.2 == 0) != (a3.toList == ([] : List UInt8))) = true then (some false) else (if bt131.2.2.2.2.2.2.2.2.2.2 = 2 then (if (t105.size : Int) > 40 then (some false) else (bailiwicklaw14_RecBack.j0 k a3 true a1_0 a1_1 a1_2 a1_3 a2_0 a2_1 a2_2 a2_3)) else (some false))) else (some false)))) else (none)) else (none))) else (none))) else (bailiwicklaw14_RecBack.j0 k a3 true a1_0 a1_1 a1_2 a1_3 a2_0 a2_1 a2_2 a2_3)) = some r := H
  have A7 := Aside0.mk A70
  clear A70
  have HC8 := Aside0.mk H
  clear H
  go_enter Try.func7, Try.ntmps7
  (try dsimp only [List.append])
  go_upto_if 41 with (first | ((with_reducible refine gate_dst (N := 4) rfl ?_); (try (refine gate_guard (by rfl) ?_; dsimp only)); refine box_event ?hg (N := 4) ?hd (cs := #[.int .i64 a0_0, .int .i64 a0_1, .int .i64 a0_2, .int .i64 a0_3, .int .i64 a0_4, .int .i64 a0_5, .int .i64 a0_6, .int .i64 a0_7, .int .i64 a0_8, .bool a0_9]) (t := 23) ?hr ?_; (case hd => rfl); (case hg => rfl); (case hr => first | (go_simp; done) | (go_simp; rfl)); intro gb101 hg w9 hbox hb; have n0_ := Aside0.mk (below_step (by repeat (first | (with_reducible first | exact HB.out | apply wA_ | apply wN_ | apply wD_) | exact HB.out)) hb); have n1_ := Aside0.mk (hbox); have n2_ := Aside0.mk ((by rw [hg]; exact (below_size (by repeat (first | (with_reducible first | exact HB.out | apply wA_ | apply wN_ | apply wD_) | exact HB.out))) : w.heap.size ≤ gb101)); have n3_ := Aside0.mk ((by rw [hg]; exact (below_size (by repeat (first | (with_reducible first | exact HB.out | apply wA_ | apply wN_ | apply wD_) | exact HB.out))) : w.heap.size ≤ gb101)); clear HB; have HB := n0_; have BK101 := n1_; have GW101 := n2_; have GE101 := n3_; clear n0_ n1_ n2_ n3_; clear hb hbox hg) | ((with_reducible refine gate_dst (N := 5) rfl ?_); (try (refine gate_guard (by rfl) ?_; dsimp only)); refine box_event ?hg (N := 5) ?hd (cs := #[.int .i64 a1_0, .string a1_1, .int .i64 a1_2, .int .i64 a1_3]) (t := 34) ?hr ?_; (case hd => rfl); (case hg => rfl); (case hr => first | (go_simp; done) | (go_simp; rfl)); intro gb102 hg w10 hbox hb; have n0_ := Aside0.mk (blk_below (g := gb101) (o := oB0_ a0_0 a0_1 a0_2 a0_3 a0_4 a0_5 a0_6 a0_7 a0_8 a0_9) (by (with_reducible repeat first | apply bN_ | apply bD_ | apply bA_); exact BK101.out) hb); have n1_ := Aside0.mk (below_step (by repeat (first | (with_reducible first | exact HB.out | apply wA_ | apply wN_ | apply wD_ | refine below_set ?_ GE101.out) | exact HB.out)) hb); have n2_ := Aside0.mk (hbox); have n3_ := Aside0.mk ((by rw [hg]; exact (below_size (by repeat (first | (with_reducible first | exact HB.out | apply wA_ | apply wN_ | apply wD_ | refine below_set ?_ GE101.out) | exact HB.out))) : w.heap.size ≤ gb102)); have n4_ := Aside0.mk ((by rw [hg]; exact (below_size (by repeat (first | (with_reducible first | exact HB.out | apply wA_ | apply wN_ | apply wD_ | refine below_set ?_ GE101.out) | exact HB.out))) : w.heap.size ≤ gb102)); have n5_ := Aside0.mk ((by rw [hg]; exact Nat.ne_of_lt (blk_lt (g := gb101) (o := oB0_ a0_0 a0_1 a0_2 a0_3 a0_4 a0_5 a0_6 a0_7 a0_8 a0_9) (by (with_reducible repeat first | apply bN_ | apply bD_ | apply bA_); exact BK101.out)) : gb101 ≠ gb102)); have n6_ := Aside0.mk ((by rw [hg]; exact Nat.ne_of_gt (blk_lt (g := gb101) (o := oB0_ a0_0 a0_1 a0_2 a0_3 a0_4 a0_5 a0_6 a0_7 a0_8 a0_9) (by (with_reducible repeat first | apply bN_ | apply bD_ | apply bA_); exact BK101.out)) : gb102 ≠ gb101)); clear BK101 HB; have BK101 := n0_; have HB := n1_; have BK102 := n2_; have GW102 := n3_; have GE102 := n4_; have NB101_102 := n5_; have NB102_101 := n6_; clear n0_ n1_ n2_ n3_ n4_ n5_ n6_; clear hb hbox hg) | ((with_reducible refine gate_dst (N := 6) rfl ?_); (try (refine gate_guard (by rfl) ?_; dsimp only)); refine box_event ?hg (N := 6) ?hd (cs := #[.int .i64 a2_0, .int .i64 a2_1, .int .i64 a2_2, .int .u64 a2_3]) (t := 26) ?hr ?_; (case hd => rfl); (case hg => rfl); (case hr => first | (go_simp; done) | (go_simp; rfl)); intro gb103 hg w11 hbox hb; have n0_ := Aside0.mk (blk_below (g := gb101) (o := oB0_ a0_0 a0_1 a0_2 a0_3 a0_4 a0_5 a0_6 a0_7 a0_8 a0_9) (by (with_reducible repeat first | apply bN_ | apply bD_ | apply bA_); exact BK101.out) hb); have n1_ := Aside0.mk (blk_below (g := gb102) (o := oB1_ a1_0 a1_1 a1_2 a1_3) (by (with_reducible repeat first | apply bN_ | apply bD_ | apply bA_); exact BK102.out) hb); have n2_ := Aside0.mk (below_step (by repeat (first | (with_reducible first | exact HB.out | apply wA_ | apply wN_ | apply wD_ | refine below_set ?_ GE101.out | refine below_set ?_ GE102.out) | exact HB.out)) hb); have n3_ := Aside0.mk (hbox); have n4_ := Aside0.mk ((by rw [hg]; exact (below_size (by repeat (first | (with_reducible first | exact HB.out | apply wA_ | apply wN_ | apply wD_ | refine below_set ?_ GE101.out | refine below_set ?_ GE102.out) | exact HB.out))) : w.heap.size ≤ gb103)); have n5_ := Aside0.mk ((by rw [hg]; exact (below_size (by repeat (first | (with_reducible first | exact HB.out | apply wA_ | apply wN_ | apply wD_ | refine below_set ?_ GE101.out | refine below_set ?_ GE102.out) | exact HB.out))) : w.heap.size ≤ gb103)); have n6_ := Aside0.mk ((by rw [hg]; exact Nat.ne_of_lt (blk_lt (g := gb101) (o := oB0_ a0_0 a0_1 a0_2 a0_3 a0_4 a0_5 a0_6 a0_7 a0_8 a0_9) (by (with_reducible repeat first | apply bN_ | apply bD_ | apply bA_); exact BK101.out)) : gb101 ≠ gb103)); have n7_ := Aside0.mk ((by rw [hg]; exact Nat.ne_of_gt (blk_lt (g := gb101) (o := oB0_ a0_0 a0_1 a0_2 a0_3 a0_4 a0_5 a0_6 a0_7 a0_8 a0_9) (by (with_reducible repeat first | apply bN_ | apply bD_ | apply bA_); exact BK101.out)) : gb103 ≠ gb101)); have n8_ := Aside0.mk ((by rw [hg]; exact Nat.ne_of_lt (blk_lt (g := gb102) (o := oB1_ a1_0 a1_1 a1_2 a1_3) (by (with_reducible repeat first | apply bN_ | apply bD_ | apply bA_); exact BK102.out)) : gb102 ≠ gb103)); have n9_ := Aside0.mk ((by rw [hg]; exact Nat.ne_of_gt (blk_lt (g := gb102) (o := oB1_ a1_0 a1_1 a1_2 a1_3) (by (with_reducible repeat first | apply bN_ | apply bD_ | apply bA_); exact BK102.out)) : gb103 ≠ gb102)); clear BK101 BK102; clear HB; have BK101 := n0_; have BK102 := n1_; have HB := n2_; have BK103 := n3_; have GW103 := n4_; have GE103 := n5_; have NB101_103 := n6_; have NB103_101 := n7_; have NB102_103 := n8_; have NB103_102 := n9_; clear n0_ n1_ n2_ n3_ n4_ n5_ n6_ n7_ n8_ n9_; clear hb hbox hg) | ((with_reducible refine gate_callee (f := 9) rfl ?_); refine goesL_ (some 32) rfl rfl Try.func9 (by kernel_rfl) rfl #[] rfl (by (try simp only [List.map_toArray, List.map_cons, List.map_nil]); first | done | rfl | (simp only [List.length_drop, List.length_take]; rfl)) ?_; (with_reducible refine (S.bailiwicklaw14_examples.calls  true _ A5.out).mono ?_); rintro e w12 ⟨rfl, hb⟩; refine ⟨_, rfl, ?_⟩; have n0_ := Aside0.mk (blk_below (g := gb101) (o := oB0_ a0_0 a0_1 a0_2 a0_3 a0_4 a0_5 a0_6 a0_7 a0_8 a0_9) (by (with_reducible repeat first | apply bN_ | apply bD_ | apply bA_); exact BK101.out) hb); have n1_ := Aside0.mk (blk_below (g := gb102) (o := oB1_ a1_0 a1_1 a1_2 a1_3) (by (with_reducible repeat first | apply bN_ | apply bD_ | apply bA_); exact BK102.out) hb); have n2_ := Aside0.mk (blk_below (g := gb103) (o := oB2_ a2_0 a2_1 a2_2 a2_3) (by (with_reducible repeat first | apply bN_ | apply bD_ | apply bA_); exact BK103.out) hb); have n3_ := Aside0.mk (below_step (by repeat (first | (with_reducible first | exact HB.out | apply wA_ | apply wN_ | apply wD_ | refine below_set ?_ GE101.out | refine below_set ?_ GE102.out | refine below_set ?_ GE103.out) | exact HB.out)) hb); clear BK101 BK102 BK103 HB; have BK101 := n0_; have BK102 := n1_; have BK103 := n2_; have HB := n3_; clear n0_ n1_ n2_ n3_; (try clear hb); (try clear hb2); (try clear hk); (try clear hi); have hnb13 := NB101_102.out; have hnc13 := NB102_101.out; have hnb14 := NB101_103.out; have hnc14 := NB103_101.out; have hcz15_0 : w12.cell? ⟨gb101, 0, none⟩ = some (.int .i64 a0_0) := (blk_cell BK101.out 0).trans rfl; have hcz15_1 : w12.cell? ⟨gb101, 1, none⟩ = some (.int .i64 a0_1) := (blk_cell BK101.out 1).trans rfl; have hcz15_2 : w12.cell? ⟨gb101, 2, none⟩ = some (.int .i64 a0_2) := (blk_cell BK101.out 2).trans rfl; have hcz15_3 : w12.cell? ⟨gb101, 3, none⟩ = some (.int .i64 a0_3) := (blk_cell BK101.out 3).trans rfl; have hcz15_4 : w12.cell? ⟨gb101, 4, none⟩ = some (.int .i64 a0_4) := (blk_cell BK101.out 4).trans rfl; have hcz15_5 : w12.cell? ⟨gb101, 5, none⟩ = some (.int .i64 a0_5) := (blk_cell BK101.out 5).trans rfl; have hcz15_6 : w12.cell? ⟨gb101, 6, none⟩ = some (.int .i64 a0_6) := (blk_cell BK101.out 6).trans rfl; have hcz15_7 : w12.cell? ⟨gb101, 7, none⟩ = some (.int .i64 a0_7) := (blk_cell BK101.out 7).trans rfl; have hcz15_8 : w12.cell? ⟨gb101, 8, none⟩ = some (.int .i64 a0_8) := (blk_cell BK101.out 8).trans rfl; have hcz15_9 : w12.cell? ⟨gb101, 9, none⟩ = some (.bool a0_9) := (blk_cell BK101.out 9).trans rfl; have hfz15_0 := blk_frozen BK101.out 0; have hfz15_1 := blk_frozen BK101.out 1; have hfz15_2 := blk_frozen BK101.out 2; have hfz15_3 := blk_frozen BK101.out 3; have hfz15_4 := blk_frozen BK101.out 4; have hfz15_5 := blk_frozen BK101.out 5; have hfz15_6 := blk_frozen BK101.out 6; have hfz15_7 := blk_frozen BK101.out 7; have hfz15_8 := blk_frozen BK101.out 8; have hfz15_9 := blk_frozen BK101.out 9) | ((with_reducible refine gate_callee (f := 19) rfl ?_); refine goesL_ (some 37) rfl rfl Try.func19 (by kernel_rfl) rfl #[.agg #[.int .i64 a0_0, .int .i64 a0_1, .int .i64 a0_2, .int .i64 a0_3, .int .i64 a0_4, .int .i64 a0_5, .int .i64 a0_6, .int .i64 a0_7, .int .i64 a0_8, .bool a0_9]] rfl (by (try simp only [List.map_toArray, List.map_cons, List.map_nil]); first | done | rfl | (simp only [List.length_drop, List.length_take]; rfl)) ?_; (with_reducible refine (G.xPutCap.calls a0_0 a0_1 a0_2 a0_3 a0_4 a0_5 a0_6 a0_7 a0_8 a0_9 t105 t106 _ A7.out).mono ?_); rintro e w16 ⟨rfl, hb⟩; refine ⟨_, rfl, ?_⟩; have n0_ := Aside0.mk (blk_below (g := gb101) (o := oB0_ a0_0 a0_1 a0_2 a0_3 a0_4 a0_5 a0_6 a0_7 a0_8 a0_9) (by (with_reducible repeat first | apply bN_ | apply bD_ | apply bA_); exact BK101.out) hb); have n1_ := Aside0.mk (blk_below (g := gb102) (o := oB1_ a1_0 a1_1 a1_2 a1_3) (by (with_reducible repeat first | apply bN_ | apply bD_ | apply bA_); exact BK102.out) hb); have n2_ := Aside0.mk (blk_below (g := gb103) (o := oB2_ a2_0 a2_1 a2_2 a2_3) (by (with_reducible repeat first | apply bN_ | apply bD_ | apply bA_); exact BK103.out) hb); have n3_ := Aside0.mk (below_step (by repeat (first | (with_reducible first | exact HB.out | apply wA_ | apply wN_ | apply wD_ | refine below_set ?_ GE101.out | refine below_set ?_ GE102.out | refine below_set ?_ GE103.out) | exact HB.out)) hb); clear BK101 BK102 BK103 HB; have BK101 := n0_; have BK102 := n1_; have BK103 := n2_; have HB := n3_; clear n0_ n1_ n2_ n3_; (try clear hb); (try clear hb2); (try clear hk); (try clear hi)))
  (try simp only [Act.put, List.setIfInBounds_toArray, List.set_cons_zero, List.set_cons_succ])
  go_cut [] (fun wc => ∃ (kq : Nat), Aside0 (bailiwicklaw14_RecBack.j0 kq a3 true a1_0 a1_1 a1_2 a1_3 a2_0 a2_1 a2_2 a2_3 = some r) ∧ Aside0 (kq ≤ k) ∧ Aside0 (wc.heap[gb101]? = some (.cells #[.int .i64 a0_0, .int .i64 a0_1, .int .i64 a0_2, .int .i64 a0_3, .int .i64 a0_4, .int .i64 a0_5, .int .i64 a0_6, .int .i64 a0_7, .int .i64 a0_8, .bool a0_9] 23 (0, 0))) ∧ Aside0 (wc.heap[gb102]? = some (.cells #[.int .i64 a1_0, .string a1_1, .int .i64 a1_2, .int .i64 a1_3] 34 (0, 0))) ∧ Aside0 (wc.heap[gb103]? = some (.cells #[.int .i64 a2_0, .int .i64 a2_1, .int .i64 a2_2, .int .u64 a2_3] 26 (0, 0))) ∧ Aside0 (Below w.heap.size w wc))
  case first =>
   have H := HC8.out
   clear HC8
   by_cases c17 : t106 = 0
   ·
    rw [if_pos c17] at H
    have c17b0 : (t106 == 0) = true := beq_iff_eq.mpr c17
    have c17b1 : (t106 != 0) = false := bne_eq_false_iff_eq.mpr c17
    clear c17
    (first | rw [c17b0] | (simp only [i64_w, i32_w]; rw [c17b0]) | skip)
    replace H := Option.bind_eq_some_iff.mp H
    obtain ⟨⟨t107, t108, t109, t110, t111, t112, t113, t114, t115, t116, t117⟩, A180, H⟩ := H
    replace H : (if t105.size + a3.size ≤ 9223372036854775807 then ((G.xTakeCap.f a0_0 (t105 ++ a3)).bind fun bt119 => (if 0 ≤ (mx (wrap64 ((t105.size : Int) - 1)) 0) then (if (mx (wrap64 ((t105.size : Int) - 1)) 0) ≤ (t105.size : Int) then ((G.xTakeCap.f a0_0 (t105.extract 0 ((mx (wrap64 ((t105.size : Int) - 1)) 0) : Int).toNat)).bind fun bt131 => (if (!(t107 == a0_0) || (!(t108 == a0_1) || (!(t109 == a0_2) || (!(t110 == a0_3) || (!(t111 == a0_4) || (!(t112 == a0_5) || (!(t113 == a0_6) || (!(t114 == a0_7) || (!(t115 == a0_8) || (!(t116 == a0_9))))))))))) = true then (some false) else (if t117 = 0 then (if ((bt119.2.2.2.2.2.2.2.2.2.2 == 0) != (a3.toList == ([] : List UInt8))) = true then (some false) else (if bt131.2.2.2.2.2.2.2.2.2.2 = 2 then (if (t105.size : Int) > 40 then (some false) else (bailiwicklaw14_RecBack.j0 k a3 true a1_0 a1_1 a1_2 a1_3 a2_0 a2_1 a2_2 a2_3)) else (some false))) else (some false)))) else (none)) else (none))) else (none)) = some r := H
    have A18 := Aside0.mk A180
    clear A180
    by_cases c19 : t105.size + a3.size ≤ 9223372036854775807
    ·
     rw [if_pos c19] at H
     have c19b0 := eq_true c19
     have c19b1 : decide (t105.size + a3.size ≤ 9223372036854775807) = true := decide_eq_true c19
     try have c19b2 : (9223372036854775807 < t105.size + a3.size) = False := eq_false (Nat.not_lt.2 c19)
     replace H := Option.bind_eq_some_iff.mp H
     obtain ⟨⟨t119, t120, t121, t122, t123, t124, t125, t126, t127, t128, t129⟩, A200, H⟩ := H
     replace H : (if 0 ≤ (mx (wrap64 ((t105.size : Int) - 1)) 0) then (if (mx (wrap64 ((t105.size : Int) - 1)) 0) ≤ (t105.size : Int) then ((G.xTakeCap.f a0_0 (t105.extract 0 ((mx (wrap64 ((t105.size : Int) - 1)) 0) : Int).toNat)).bind fun bt131 => (if (!(t107 == a0_0) || (!(t108 == a0_1) || (!(t109 == a0_2) || (!(t110 == a0_3) || (!(t111 == a0_4) || (!(t112 == a0_5) || (!(t113 == a0_6) || (!(t114 == a0_7) || (!(t115 == a0_8) || (!(t116 == a0_9))))))))))) = true then (some false) else (if t117 = 0 then (if ((t129 == 0) != (a3.toList == ([] : List UInt8))) = true then (some false) else (if bt131.2.2.2.2.2.2.2.2.2.2 = 2 then (if (t105.size : Int) > 40 then (some false) else (bailiwicklaw14_RecBack.j0 k a3 true a1_0 a1_1 a1_2 a1_3 a2_0 a2_1 a2_2 a2_3)) else (some false))) else (some false)))) else (none)) else (none)) = some r := H
     have A20 := Aside0.mk A200
     clear A200
     obtain ⟨ji21, hji21⟩ : ∃ j_ : Int, (mx (wrap64 ((t105.size : Int) - 1)) 0) = j_ := ⟨_, rfl⟩
     replace H : (if 0 ≤ (ji21) then (if (ji21) ≤ (t105.size : Int) then ((G.xTakeCap.f a0_0 (t105.extract 0 ((ji21) : Int).toNat)).bind fun bt131 => (if (!(t107 == a0_0) || (!(t108 == a0_1) || (!(t109 == a0_2) || (!(t110 == a0_3) || (!(t111 == a0_4) || (!(t112 == a0_5) || (!(t113 == a0_6) || (!(t114 == a0_7) || (!(t115 == a0_8) || (!(t116 == a0_9))))))))))) = true then (some false) else (if t117 = 0 then (if ((t129 == 0) != (a3.toList == ([] : List UInt8))) = true then (some false) else (if bt131.2.2.2.2.2.2.2.2.2.2 = 2 then (if (t105.size : Int) > 40 then (some false) else (bailiwicklaw14_RecBack.j0 k a3 true a1_0 a1_1 a1_2 a1_3 a2_0 a2_1 a2_2 a2_3)) else (some false))) else (some false)))) else (none)) else (none)) = some r := by first | (rw [hji21] at H; exact H) | (simp only [hji21] at H ⊢; exact H)
     (try rw [hji21] at A18)
     (try rw [hji21] at A20)
     (try (have hji21l : 0 ≤ ji21 := by (rw [← hji21]; unfold mx; (repeat' split) <;> omega)))
     (try (have hji21m : 0 ≤ ji21 := by omega))
     have hji21_ : (if (wrap64 ((t105.size : Int) - 1)) < 0 then 0 else (wrap64 ((t105.size : Int) - 1))) = ji21 := hji21
     by_cases c22 : 0 ≤ (ji21)
     ·
      rw [if_pos c22] at H
      have c22b0 := eq_true c22
      have c22b1 : decide (0 ≤ (ji21)) = true := decide_eq_true c22
      clear c22
      by_cases c23 : (ji21) ≤ (t105.size : Int)
      ·
       rw [if_pos c23] at H
       have c23b0 := eq_true c23
       have c23b1 : decide ((ji21) ≤ (t105.size : Int)) = true := decide_eq_true c23
       clear c23
       replace H := Option.bind_eq_some_iff.mp H
       obtain ⟨⟨t131, t132, t133, t134, t135, t136, t137, t138, t139, t140, t141⟩, A240, H⟩ := H
       replace H : (if (!(t107 == a0_0) || (!(t108 == a0_1) || (!(t109 == a0_2) || (!(t110 == a0_3) || (!(t111 == a0_4) || (!(t112 == a0_5) || (!(t113 == a0_6) || (!(t114 == a0_7) || (!(t115 == a0_8) || (!(t116 == a0_9))))))))))) = true then (some false) else (if t117 = 0 then (if ((t129 == 0) != (a3.toList == ([] : List UInt8))) = true then (some false) else (if t141 = 2 then (if (t105.size : Int) > 40 then (some false) else (bailiwicklaw14_RecBack.j0 k a3 true a1_0 a1_1 a1_2 a1_3 a2_0 a2_1 a2_2 a2_3)) else (some false))) else (some false))) = some r := H
       have A24 := Aside0.mk A240
       clear A240
       by_cases c25 : (!(t107 == a0_0) || (!(t108 == a0_1) || (!(t109 == a0_2) || (!(t110 == a0_3) || (!(t111 == a0_4) || (!(t112 == a0_5) || (!(t113 == a0_6) || (!(t114 == a0_7) || (!(t115 == a0_8) || (!(t116 == a0_9))))))))))) = true
       ·
        rw [if_pos c25] at H
        have c25b0 : (!(t107 == a0_0) || (!(t108 == a0_1) || (!(t109 == a0_2) || (!(t110 == a0_3) || (!(t111 == a0_4) || (!(t112 == a0_5) || (!(t113 == a0_6) || (!(t114 == a0_7) || (!(t115 == a0_8) || (!(t116 == a0_9))))))))))) = true := c25
        clear c25
        obtain rfl := Option.some.inj H
        exact absurd hrp_ (by decide)
       ·
        rw [if_neg c25] at H
        have c25b0 : (!(t107 == a0_0) || (!(t108 == a0_1) || (!(t109 == a0_2) || (!(t110 == a0_3) || (!(t111 == a0_4) || (!(t112 == a0_5) || (!(t113 == a0_6) || (!(t114 == a0_7) || (!(t115 == a0_8) || (!(t116 == a0_9))))))))))) = false := by simpa using c25
        clear c25
        by_cases c26 : t117 = 0
        ·
         rw [if_pos c26] at H
         have c26b0 : (t117 == 0) = true := beq_iff_eq.mpr c26
         have c26b1 : (t117 != 0) = false := bne_eq_false_iff_eq.mpr c26
         clear c26
         by_cases c27 : ((t129 == 0) != (a3.toList == ([] : List UInt8))) = true
         ·
          rw [if_pos c27] at H
          have c27b0 : ((t129 == 0) != (a3.toList == ([] : List UInt8))) = true := c27
          (try (have c27b1 : decide ((t129 == 0) = (a3.toList == ([] : List UInt8))) = false := by simpa using c27))
          (try (have c27b2 : ((t129 == 0) == (a3.toList == ([] : List UInt8))) = false := by simpa using c27))
          (try (have c27b3 : ¬ ((t129 == 0) = (a3.toList == ([] : List UInt8))) := by simpa using c27))
          clear c27
          obtain rfl := Option.some.inj H
          exact absurd hrp_ (by decide)
         ·
          rw [if_neg c27] at H
          have c27b0 : ((t129 == 0) != (a3.toList == ([] : List UInt8))) = false := by simpa using c27
          have c27e : (t129 == 0) = a3.toList.isEmpty := by revert c27; cases (t129 == 0) <;> cases a3.toList <;> simp
          (try (have c27b1 : decide ((t129 == 0) = (a3.toList == ([] : List UInt8))) = true := by simpa using c27))
          (try (have c27b2 : ((t129 == 0) == (a3.toList == ([] : List UInt8))) = true := by simpa using c27))
          clear c27
          by_cases c28 : t141 = 2
          ·
           rw [if_pos c28] at H
           have c28b0 : (t141 == 2) = true := beq_iff_eq.mpr c28
           have c28b1 : (t141 != 2) = false := bne_eq_false_iff_eq.mpr c28
           clear c28
           by_cases c29 : (t105.size : Int) > 40
           ·
            rw [if_pos c29] at H
            have c29b0 : decide (40 < (t105.size : Int)) = true := decide_eq_true c29
            have c29b1 : decide (40 < t105.size) = true := decide_eq_true (by omega)
            clear c29
            obtain rfl := Option.some.inj H
            exact absurd hrp_ (by decide)
           ·
            rw [if_neg c29] at H
            have c29b0 : decide (40 < (t105.size : Int)) = false := decide_eq_false c29
            have c29b1 : decide (40 < t105.size) = false := decide_eq_false (by omega)
            clear c29
            have H' := Aside0.mk H
            clear H
            have hnb30 := NB101_102.out
            have hnc30 := NB102_101.out
            have hnb31 := NB101_103.out
            have hnc31 := NB103_101.out
            have hcz32_0 : w16.cell? ⟨gb101, 0, none⟩ = some (.int .i64 a0_0) := (blk_cell BK101.out 0).trans rfl
            have hcz32_1 : w16.cell? ⟨gb101, 1, none⟩ = some (.int .i64 a0_1) := (blk_cell BK101.out 1).trans rfl
            have hcz32_2 : w16.cell? ⟨gb101, 2, none⟩ = some (.int .i64 a0_2) := (blk_cell BK101.out 2).trans rfl
            have hcz32_3 : w16.cell? ⟨gb101, 3, none⟩ = some (.int .i64 a0_3) := (blk_cell BK101.out 3).trans rfl
            have hcz32_4 : w16.cell? ⟨gb101, 4, none⟩ = some (.int .i64 a0_4) := (blk_cell BK101.out 4).trans rfl
            have hcz32_5 : w16.cell? ⟨gb101, 5, none⟩ = some (.int .i64 a0_5) := (blk_cell BK101.out 5).trans rfl
            have hcz32_6 : w16.cell? ⟨gb101, 6, none⟩ = some (.int .i64 a0_6) := (blk_cell BK101.out 6).trans rfl
            have hcz32_7 : w16.cell? ⟨gb101, 7, none⟩ = some (.int .i64 a0_7) := (blk_cell BK101.out 7).trans rfl
            have hcz32_8 : w16.cell? ⟨gb101, 8, none⟩ = some (.int .i64 a0_8) := (blk_cell BK101.out 8).trans rfl
            have hcz32_9 : w16.cell? ⟨gb101, 9, none⟩ = some (.bool a0_9) := (blk_cell BK101.out 9).trans rfl
            have hfz32_0 := blk_frozen BK101.out 0
            have hfz32_1 := blk_frozen BK101.out 1
            have hfz32_2 := blk_frozen BK101.out 2
            have hfz32_3 := blk_frozen BK101.out 3
            have hfz32_4 := blk_frozen BK101.out 4
            have hfz32_5 := blk_frozen BK101.out 5
            have hfz32_6 := blk_frozen BK101.out 6
            have hfz32_7 := blk_frozen BK101.out 7
            have hfz32_8 := blk_frozen BK101.out 8
            have hfz32_9 := blk_frozen BK101.out 9
            try go_wp2_with (first | ((with_reducible refine gate_callee (f := 21) rfl ?_); refine goesL_ (some 46) rfl rfl Try.func21 (by kernel_rfl) rfl #[.int .i64 a0_0, .string t105] rfl (by (try simp only [List.map_toArray, List.map_cons, List.map_nil]); first | done | rfl | (simp only [List.length_drop, List.length_take]; rfl)) ?_; (with_reducible refine (G.xTakeCap.calls a0_0 t105 t107 t108 t109 t110 t111 t112 t113 t114 t115 t116 t117 _ A18.out).mono ?_); rintro e w33 ⟨rfl, hb⟩; refine ⟨_, rfl, ?_⟩; have n0_ := Aside0.mk (blk_below (g := gb101) (o := oB0_ a0_0 a0_1 a0_2 a0_3 a0_4 a0_5 a0_6 a0_7 a0_8 a0_9) (by (with_reducible repeat first | apply bN_ | apply bD_ | apply bA_); exact BK101.out) hb); have n1_ := Aside0.mk (blk_below (g := gb102) (o := oB1_ a1_0 a1_1 a1_2 a1_3) (by (with_reducible repeat first | apply bN_ | apply bD_ | apply bA_); exact BK102.out) hb); have n2_ := Aside0.mk (blk_below (g := gb103) (o := oB2_ a2_0 a2_1 a2_2 a2_3) (by (with_reducible repeat first | apply bN_ | apply bD_ | apply bA_); exact BK103.out) hb); have n3_ := Aside0.mk (below_step (by repeat (first | (with_reducible first | exact HB.out | apply wA_ | apply wN_ | apply wD_ | refine below_set ?_ GE101.out | refine below_set ?_ GE102.out | refine below_set ?_ GE103.out) | exact HB.out)) hb); clear BK101 BK102 BK103 HB; have BK101 := n0_; have BK102 := n1_; have BK103 := n2_; have HB := n3_; clear n0_ n1_ n2_ n3_; (try clear hb); (try clear hb2); (try clear hk); (try clear hi)) | ((with_reducible refine gate_dst (N := 12) rfl ?_); (try (refine gate_guard (by rfl) ?_; dsimp only)); refine box_event ?hg (N := 12) ?hd (cs := #[.int .i64 0, .int .i64 0, .int .i64 0, .int .i64 0, .int .i64 0, .int .i64 0, .int .i64 0, .int .i64 0, .int .i64 0, .bool false]) (t := 23) ?hr ?_; (case hd => rfl); (case hg => rfl); (case hr => first | (go_simp; done) | (go_simp; rfl)); intro gb118 hg w34 hbox hb; have n0_ := Aside0.mk (blk_below (g := gb101) (o := oB0_ a0_0 a0_1 a0_2 a0_3 a0_4 a0_5 a0_6 a0_7 a0_8 a0_9) (by (with_reducible repeat first | apply bN_ | apply bD_ | apply bA_); exact BK101.out) hb); have n1_ := Aside0.mk (blk_below (g := gb102) (o := oB1_ a1_0 a1_1 a1_2 a1_3) (by (with_reducible repeat first | apply bN_ | apply bD_ | apply bA_); exact BK102.out) hb); have n2_ := Aside0.mk (blk_below (g := gb103) (o := oB2_ a2_0 a2_1 a2_2 a2_3) (by (with_reducible repeat first | apply bN_ | apply bD_ | apply bA_); exact BK103.out) hb); have n3_ := Aside0.mk (below_step (by repeat (first | (with_reducible first | exact HB.out | apply wA_ | apply wN_ | apply wD_ | refine below_set ?_ GE101.out | refine below_set ?_ GE102.out | refine below_set ?_ GE103.out) | exact HB.out)) hb); have n4_ := Aside0.mk (hbox); have n5_ := Aside0.mk ((by rw [hg]; exact (below_size (by repeat (first | (with_reducible first | exact HB.out | apply wA_ | apply wN_ | apply wD_ | refine below_set ?_ GE101.out | refine below_set ?_ GE102.out | refine below_set ?_ GE103.out) | exact HB.out))) : w.heap.size ≤ gb118)); have n6_ := Aside0.mk ((by rw [hg]; exact (below_size (by repeat (first | (with_reducible first | exact HB.out | apply wA_ | apply wN_ | apply wD_ | refine below_set ?_ GE101.out | refine below_set ?_ GE102.out | refine below_set ?_ GE103.out) | exact HB.out))) : w.heap.size ≤ gb118)); have n7_ := Aside0.mk ((by rw [hg]; exact Nat.ne_of_lt (blk_lt (g := gb101) (o := oB0_ a0_0 a0_1 a0_2 a0_3 a0_4 a0_5 a0_6 a0_7 a0_8 a0_9) (by (with_reducible repeat first | apply bN_ | apply bD_ | apply bA_); exact BK101.out)) : gb101 ≠ gb118)); have n8_ := Aside0.mk ((by rw [hg]; exact Nat.ne_of_gt (blk_lt (g := gb101) (o := oB0_ a0_0 a0_1 a0_2 a0_3 a0_4 a0_5 a0_6 a0_7 a0_8 a0_9) (by (with_reducible repeat first | apply bN_ | apply bD_ | apply bA_); exact BK101.out)) : gb118 ≠ gb101)); have n9_ := Aside0.mk ((by rw [hg]; exact Nat.ne_of_lt (blk_lt (g := gb102) (o := oB1_ a1_0 a1_1 a1_2 a1_3) (by (with_reducible repeat first | apply bN_ | apply bD_ | apply bA_); exact BK102.out)) : gb102 ≠ gb118)); have n10_ := Aside0.mk ((by rw [hg]; exact Nat.ne_of_gt (blk_lt (g := gb102) (o := oB1_ a1_0 a1_1 a1_2 a1_3) (by (with_reducible repeat first | apply bN_ | apply bD_ | apply bA_); exact BK102.out)) : gb118 ≠ gb102)); have n11_ := Aside0.mk ((by rw [hg]; exact Nat.ne_of_lt (blk_lt (g := gb103) (o := oB2_ a2_0 a2_1 a2_2 a2_3) (by (with_reducible repeat first | apply bN_ | apply bD_ | apply bA_); exact BK103.out)) : gb103 ≠ gb118)); have n12_ := Aside0.mk ((by rw [hg]; exact Nat.ne_of_gt (blk_lt (g := gb103) (o := oB2_ a2_0 a2_1 a2_2 a2_3) (by (with_reducible repeat first | apply bN_ | apply bD_ | apply bA_); exact BK103.out)) : gb118 ≠ gb103)); clear BK101 BK102 BK103 HB; have BK101 := n0_; have BK102 := n1_; have BK103 := n2_; have HB := n3_; have BK118 := n4_; have GW118 := n5_; have GE118 := n6_; have NB101_118 := n7_; have NB118_101 := n8_; have NB102_118 := n9_; have NB118_102 := n10_; have NB103_118 := n11_; have NB118_103 := n12_; clear n0_ n1_ n2_ n3_ n4_ n5_ n6_ n7_ n8_ n9_ n10_ n11_ n12_; clear hb hbox hg; have hnb35 := NB118_101.out; have hnc35 := NB101_118.out; have hnb36 := NB118_102.out; have hnc36 := NB102_118.out; have hnb37 := NB118_103.out; have hnc37 := NB103_118.out; have hcz38_0 : w34.cell? ⟨gb118, 0, none⟩ = some (.int .i64 0) := (blk_cell BK118.out 0).trans rfl; have hcz38_1 : w34.cell? ⟨gb118, 1, none⟩ = some (.int .i64 0) := (blk_cell BK118.out 1).trans rfl; have hcz38_2 : w34.cell? ⟨gb118, 2, none⟩ = some (.int .i64 0) := (blk_cell BK118.out 2).trans rfl; have hcz38_3 : w34.cell? ⟨gb118, 3, none⟩ = some (.int .i64 0) := (blk_cell BK118.out 3).trans rfl; have hcz38_4 : w34.cell? ⟨gb118, 4, none⟩ = some (.int .i64 0) := (blk_cell BK118.out 4).trans rfl; have hcz38_5 : w34.cell? ⟨gb118, 5, none⟩ = some (.int .i64 0) := (blk_cell BK118.out 5).trans rfl; have hcz38_6 : w34.cell? ⟨gb118, 6, none⟩ = some (.int .i64 0) := (blk_cell BK118.out 6).trans rfl; have hcz38_7 : w34.cell? ⟨gb118, 7, none⟩ = some (.int .i64 0) := (blk_cell BK118.out 7).trans rfl; have hcz38_8 : w34.cell? ⟨gb118, 8, none⟩ = some (.int .i64 0) := (blk_cell BK118.out 8).trans rfl; have hcz38_9 : w34.cell? ⟨gb118, 9, none⟩ = some (.bool false) := (blk_cell BK118.out 9).trans rfl; have hfz38_0 := blk_frozen BK118.out 0; have hfz38_1 := blk_frozen BK118.out 1; have hfz38_2 := blk_frozen BK118.out 2; have hfz38_3 := blk_frozen BK118.out 3; have hfz38_4 := blk_frozen BK118.out 4; have hfz38_5 := blk_frozen BK118.out 5; have hfz38_6 := blk_frozen BK118.out 6; have hfz38_7 := blk_frozen BK118.out 7; have hfz38_8 := blk_frozen BK118.out 8; have hfz38_9 := blk_frozen BK118.out 9; have hcz39_0 : w34.cell? ⟨gb101, 0, none⟩ = some (.int .i64 a0_0) := (blk_cell BK101.out 0).trans rfl; have hcz39_1 : w34.cell? ⟨gb101, 1, none⟩ = some (.int .i64 a0_1) := (blk_cell BK101.out 1).trans rfl; have hcz39_2 : w34.cell? ⟨gb101, 2, none⟩ = some (.int .i64 a0_2) := (blk_cell BK101.out 2).trans rfl; have hcz39_3 : w34.cell? ⟨gb101, 3, none⟩ = some (.int .i64 a0_3) := (blk_cell BK101.out 3).trans rfl; have hcz39_4 : w34.cell? ⟨gb101, 4, none⟩ = some (.int .i64 a0_4) := (blk_cell BK101.out 4).trans rfl; have hcz39_5 : w34.cell? ⟨gb101, 5, none⟩ = some (.int .i64 a0_5) := (blk_cell BK101.out 5).trans rfl; have hcz39_6 : w34.cell? ⟨gb101, 6, none⟩ = some (.int .i64 a0_6) := (blk_cell BK101.out 6).trans rfl; have hcz39_7 : w34.cell? ⟨gb101, 7, none⟩ = some (.int .i64 a0_7) := (blk_cell BK101.out 7).trans rfl; have hcz39_8 : w34.cell? ⟨gb101, 8, none⟩ = some (.int .i64 a0_8) := (blk_cell BK101.out 8).trans rfl; have hcz39_9 : w34.cell? ⟨gb101, 9, none⟩ = some (.bool a0_9) := (blk_cell BK101.out 9).trans rfl; have hfz39_0 := blk_frozen BK101.out 0; have hfz39_1 := blk_frozen BK101.out 1; have hfz39_2 := blk_frozen BK101.out 2; have hfz39_3 := blk_frozen BK101.out 3; have hfz39_4 := blk_frozen BK101.out 4; have hfz39_5 := blk_frozen BK101.out 5; have hfz39_6 := blk_frozen BK101.out 6; have hfz39_7 := blk_frozen BK101.out 7; have hfz39_8 := blk_frozen BK101.out 8; have hfz39_9 := blk_frozen BK101.out 9) | ((with_reducible refine gate_callee (f := 21) rfl ?_); refine goesL_ (some 55) rfl rfl Try.func21 (by kernel_rfl) rfl #[.int .i64 a0_0, .string (t105 ++ a3)] rfl (by (try simp only [List.map_toArray, List.map_cons, List.map_nil]); first | done | rfl | (simp only [List.length_drop, List.length_take]; rfl)) ?_; (with_reducible refine (G.xTakeCap.calls a0_0 (t105 ++ a3) t119 t120 t121 t122 t123 t124 t125 t126 t127 t128 t129 _ A20.out).mono ?_); rintro e w40 ⟨rfl, hb⟩; refine ⟨_, rfl, ?_⟩; have n0_ := Aside0.mk (blk_below (g := gb101) (o := oB0_ a0_0 a0_1 a0_2 a0_3 a0_4 a0_5 a0_6 a0_7 a0_8 a0_9) (by (with_reducible repeat first | apply bN_ | apply bD_ | apply bA_); refine blk_far ?_ NB101_118.out _; (with_reducible repeat first | apply bN_ | apply bD_ | apply bA_); refine blk_far ?_ NB101_118.out _; (with_reducible repeat first | apply bN_ | apply bD_ | apply bA_); refine blk_far ?_ NB101_118.out _; (with_reducible repeat first | apply bN_ | apply bD_ | apply bA_); refine blk_far ?_ NB101_118.out _; (with_reducible repeat first | apply bN_ | apply bD_ | apply bA_); refine blk_far ?_ NB101_118.out _; (with_reducible repeat first | apply bN_ | apply bD_ | apply bA_); refine blk_far ?_ NB101_118.out _; (with_reducible repeat first | apply bN_ | apply bD_ | apply bA_); refine blk_far ?_ NB101_118.out _; (with_reducible repeat first | apply bN_ | apply bD_ | apply bA_); refine blk_far ?_ NB101_118.out _; (with_reducible repeat first | apply bN_ | apply bD_ | apply bA_); refine blk_far ?_ NB101_118.out _; (with_reducible repeat first | apply bN_ | apply bD_ | apply bA_); refine blk_far ?_ NB101_118.out _; (with_reducible repeat first | apply bN_ | apply bD_ | apply bA_); exact BK101.out) hb); have n1_ := Aside0.mk (blk_below (g := gb102) (o := oB1_ a1_0 a1_1 a1_2 a1_3) (by (with_reducible repeat first | apply bN_ | apply bD_ | apply bA_); refine blk_far ?_ NB102_118.out _; (with_reducible repeat first | apply bN_ | apply bD_ | apply bA_); refine blk_far ?_ NB102_118.out _; (with_reducible repeat first | apply bN_ | apply bD_ | apply bA_); refine blk_far ?_ NB102_118.out _; (with_reducible repeat first | apply bN_ | apply bD_ | apply bA_); refine blk_far ?_ NB102_118.out _; (with_reducible repeat first | apply bN_ | apply bD_ | apply bA_); refine blk_far ?_ NB102_118.out _; (with_reducible repeat first | apply bN_ | apply bD_ | apply bA_); refine blk_far ?_ NB102_118.out _; (with_reducible repeat first | apply bN_ | apply bD_ | apply bA_); refine blk_far ?_ NB102_118.out _; (with_reducible repeat first | apply bN_ | apply bD_ | apply bA_); refine blk_far ?_ NB102_118.out _; (with_reducible repeat first | apply bN_ | apply bD_ | apply bA_); refine blk_far ?_ NB102_118.out _; (with_reducible repeat first | apply bN_ | apply bD_ | apply bA_); refine blk_far ?_ NB102_118.out _; (with_reducible repeat first | apply bN_ | apply bD_ | apply bA_); exact BK102.out) hb); have n2_ := Aside0.mk (blk_below (g := gb103) (o := oB2_ a2_0 a2_1 a2_2 a2_3) (by (with_reducible repeat first | apply bN_ | apply bD_ | apply bA_); refine blk_far ?_ NB103_118.out _; (with_reducible repeat first | apply bN_ | apply bD_ | apply bA_); refine blk_far ?_ NB103_118.out _; (with_reducible repeat first | apply bN_ | apply bD_ | apply bA_); refine blk_far ?_ NB103_118.out _; (with_reducible repeat first | apply bN_ | apply bD_ | apply bA_); refine blk_far ?_ NB103_118.out _; (with_reducible repeat first | apply bN_ | apply bD_ | apply bA_); refine blk_far ?_ NB103_118.out _; (with_reducible repeat first | apply bN_ | apply bD_ | apply bA_); refine blk_far ?_ NB103_118.out _; (with_reducible repeat first | apply bN_ | apply bD_ | apply bA_); refine blk_far ?_ NB103_118.out _; (with_reducible repeat first | apply bN_ | apply bD_ | apply bA_); refine blk_far ?_ NB103_118.out _; (with_reducible repeat first | apply bN_ | apply bD_ | apply bA_); refine blk_far ?_ NB103_118.out _; (with_reducible repeat first | apply bN_ | apply bD_ | apply bA_); refine blk_far ?_ NB103_118.out _; (with_reducible repeat first | apply bN_ | apply bD_ | apply bA_); exact BK103.out) hb); have n3_ := Aside0.mk (blk_below (g := gb118) (o := oB0_ t107 t108 t109 t110 t111 t112 t113 t114 t115 t116) (by (with_reducible repeat first | apply bN_ | apply bD_ | apply bA_); refine blk_put (cs := #[.int .i64 t107, .int .i64 t108, .int .i64 t109, .int .i64 t110, .int .i64 t111, .int .i64 t112, .int .i64 t113, .int .i64 t114, .int .i64 t115, .bool false]) ?_ 9 _ rfl; (with_reducible repeat first | apply bN_ | apply bD_ | apply bA_); refine blk_put (cs := #[.int .i64 t107, .int .i64 t108, .int .i64 t109, .int .i64 t110, .int .i64 t111, .int .i64 t112, .int .i64 t113, .int .i64 t114, .int .i64 0, .bool false]) ?_ 8 _ rfl; (with_reducible repeat first | apply bN_ | apply bD_ | apply bA_); refine blk_put (cs := #[.int .i64 t107, .int .i64 t108, .int .i64 t109, .int .i64 t110, .int .i64 t111, .int .i64 t112, .int .i64 t113, .int .i64 0, .int .i64 0, .bool false]) ?_ 7 _ rfl; (with_reducible repeat first | apply bN_ | apply bD_ | apply bA_); refine blk_put (cs := #[.int .i64 t107, .int .i64 t108, .int .i64 t109, .int .i64 t110, .int .i64 t111, .int .i64 t112, .int .i64 0, .int .i64 0, .int .i64 0, .bool false]) ?_ 6 _ rfl; (with_reducible repeat first | apply bN_ | apply bD_ | apply bA_); refine blk_put (cs := #[.int .i64 t107, .int .i64 t108, .int .i64 t109, .int .i64 t110, .int .i64 t111, .int .i64 0, .int .i64 0, .int .i64 0, .int .i64 0, .bool false]) ?_ 5 _ rfl; (with_reducible repeat first | apply bN_ | apply bD_ | apply bA_); refine blk_put (cs := #[.int .i64 t107, .int .i64 t108, .int .i64 t109, .int .i64 t110, .int .i64 0, .int .i64 0, .int .i64 0, .int .i64 0, .int .i64 0, .bool false]) ?_ 4 _ rfl; (with_reducible repeat first | apply bN_ | apply bD_ | apply bA_); refine blk_put (cs := #[.int .i64 t107, .int .i64 t108, .int .i64 t109, .int .i64 0, .int .i64 0, .int .i64 0, .int .i64 0, .int .i64 0, .int .i64 0, .bool false]) ?_ 3 _ rfl; (with_reducible repeat first | apply bN_ | apply bD_ | apply bA_); refine blk_put (cs := #[.int .i64 t107, .int .i64 t108, .int .i64 0, .int .i64 0, .int .i64 0, .int .i64 0, .int .i64 0, .int .i64 0, .int .i64 0, .bool false]) ?_ 2 _ rfl; (with_reducible repeat first | apply bN_ | apply bD_ | apply bA_); refine blk_put (cs := #[.int .i64 t107, .int .i64 0, .int .i64 0, .int .i64 0, .int .i64 0, .int .i64 0, .int .i64 0, .int .i64 0, .int .i64 0, .bool false]) ?_ 1 _ rfl; (with_reducible repeat first | apply bN_ | apply bD_ | apply bA_); refine blk_put (cs := #[.int .i64 0, .int .i64 0, .int .i64 0, .int .i64 0, .int .i64 0, .int .i64 0, .int .i64 0, .int .i64 0, .int .i64 0, .bool false]) ?_ 0 _ rfl; (with_reducible repeat first | apply bN_ | apply bD_ | apply bA_); exact BK118.out) hb); have n4_ := Aside0.mk (below_step (by repeat (first | (with_reducible first | exact HB.out | apply wA_ | apply wN_ | apply wD_ | refine below_set ?_ GE101.out | refine below_set ?_ GE102.out | refine below_set ?_ GE103.out | refine below_set ?_ GE118.out) | exact HB.out)) hb); clear BK101 BK102 BK103 BK118; clear HB; have BK101 := n0_; have BK102 := n1_; have BK103 := n2_; have BK118 := n3_; have HB := n4_; clear n0_ n1_ n2_ n3_ n4_; (try clear hb); (try clear hb2); (try clear hk); (try clear hi)) | ((with_reducible refine gate_dst (N := 14) rfl ?_); (try (refine gate_guard (by rfl) ?_; dsimp only)); refine box_event ?hg (N := 14) ?hd (cs := #[.int .i64 0, .int .i64 0, .int .i64 0, .int .i64 0, .int .i64 0, .int .i64 0, .int .i64 0, .int .i64 0, .int .i64 0, .bool false]) (t := 23) ?hr ?_; (case hd => rfl); (case hg => rfl); (case hr => first | (go_simp; done) | (go_simp; rfl)); intro gb130 hg w41 hbox hb; have n0_ := Aside0.mk (blk_below (g := gb101) (o := oB0_ a0_0 a0_1 a0_2 a0_3 a0_4 a0_5 a0_6 a0_7 a0_8 a0_9) (by (with_reducible repeat first | apply bN_ | apply bD_ | apply bA_); exact BK101.out) hb); have n1_ := Aside0.mk (blk_below (g := gb102) (o := oB1_ a1_0 a1_1 a1_2 a1_3) (by (with_reducible repeat first | apply bN_ | apply bD_ | apply bA_); exact BK102.out) hb); have n2_ := Aside0.mk (blk_below (g := gb103) (o := oB2_ a2_0 a2_1 a2_2 a2_3) (by (with_reducible repeat first | apply bN_ | apply bD_ | apply bA_); exact BK103.out) hb); have n3_ := Aside0.mk (blk_below (g := gb118) (o := oB0_ t107 t108 t109 t110 t111 t112 t113 t114 t115 t116) (by (with_reducible repeat first | apply bN_ | apply bD_ | apply bA_); exact BK118.out) hb); have n4_ := Aside0.mk (below_step (by repeat (first | (with_reducible first | exact HB.out | apply wA_ | apply wN_ | apply wD_ | refine below_set ?_ GE101.out | refine below_set ?_ GE102.out | refine below_set ?_ GE103.out | refine below_set ?_ GE118.out) | exact HB.out)) hb); have n5_ := Aside0.mk (hbox); have n6_ := Aside0.mk ((by rw [hg]; exact (below_size (by repeat (first | (with_reducible first | exact HB.out | apply wA_ | apply wN_ | apply wD_ | refine below_set ?_ GE101.out | refine below_set ?_ GE102.out | refine below_set ?_ GE103.out | refine below_set ?_ GE118.out) | exact HB.out))) : w.heap.size ≤ gb130)); have n7_ := Aside0.mk ((by rw [hg]; exact (below_size (by repeat (first | (with_reducible first | exact HB.out | apply wA_ | apply wN_ | apply wD_ | refine below_set ?_ GE101.out | refine below_set ?_ GE102.out | refine below_set ?_ GE103.out | refine below_set ?_ GE118.out) | exact HB.out))) : w.heap.size ≤ gb130)); have n8_ := Aside0.mk ((by rw [hg]; exact Nat.ne_of_lt (blk_lt (g := gb101) (o := oB0_ a0_0 a0_1 a0_2 a0_3 a0_4 a0_5 a0_6 a0_7 a0_8 a0_9) (by (with_reducible repeat first | apply bN_ | apply bD_ | apply bA_); exact BK101.out)) : gb101 ≠ gb130)); have n9_ := Aside0.mk ((by rw [hg]; exact Nat.ne_of_gt (blk_lt (g := gb101) (o := oB0_ a0_0 a0_1 a0_2 a0_3 a0_4 a0_5 a0_6 a0_7 a0_8 a0_9) (by (with_reducible repeat first | apply bN_ | apply bD_ | apply bA_); exact BK101.out)) : gb130 ≠ gb101)); have n10_ := Aside0.mk ((by rw [hg]; exact Nat.ne_of_lt (blk_lt (g := gb102) (o := oB1_ a1_0 a1_1 a1_2 a1_3) (by (with_reducible repeat first | apply bN_ | apply bD_ | apply bA_); exact BK102.out)) : gb102 ≠ gb130)); have n11_ := Aside0.mk ((by rw [hg]; exact Nat.ne_of_gt (blk_lt (g := gb102) (o := oB1_ a1_0 a1_1 a1_2 a1_3) (by (with_reducible repeat first | apply bN_ | apply bD_ | apply bA_); exact BK102.out)) : gb130 ≠ gb102)); have n12_ := Aside0.mk ((by rw [hg]; exact Nat.ne_of_lt (blk_lt (g := gb103) (o := oB2_ a2_0 a2_1 a2_2 a2_3) (by (with_reducible repeat first | apply bN_ | apply bD_ | apply bA_); exact BK103.out)) : gb103 ≠ gb130)); have n13_ := Aside0.mk ((by rw [hg]; exact Nat.ne_of_gt (blk_lt (g := gb103) (o := oB2_ a2_0 a2_1 a2_2 a2_3) (by (with_reducible repeat first | apply bN_ | apply bD_ | apply bA_); exact BK103.out)) : gb130 ≠ gb103)); have n14_ := Aside0.mk ((by rw [hg]; exact Nat.ne_of_lt (blk_lt (g := gb118) (o := oB0_ t107 t108 t109 t110 t111 t112 t113 t114 t115 t116) (by (with_reducible repeat first | apply bN_ | apply bD_ | apply bA_); exact BK118.out)) : gb118 ≠ gb130)); have n15_ := Aside0.mk ((by rw [hg]; exact Nat.ne_of_gt (blk_lt (g := gb118) (o := oB0_ t107 t108 t109 t110 t111 t112 t113 t114 t115 t116) (by (with_reducible repeat first | apply bN_ | apply bD_ | apply bA_); exact BK118.out)) : gb130 ≠ gb118)); clear BK101 BK102 BK103 BK118; clear HB; have BK101 := n0_; have BK102 := n1_; have BK103 := n2_; have BK118 := n3_; have HB := n4_; have BK130 := n5_; have GW130 := n6_; have GE130 := n7_; have NB101_130 := n8_; have NB130_101 := n9_; have NB102_130 := n10_; have NB130_102 := n11_; have NB103_130 := n12_; have NB130_103 := n13_; have NB118_130 := n14_; have NB130_118 := n15_; clear n0_ n1_ n2_ n3_ n4_ n5_ n6_ n7_ n8_ n9_ n10_ n11_ n12_ n13_ n14_ n15_; clear hb hbox hg; have hnb42 := NB130_101.out; have hnc42 := NB101_130.out; have hnb43 := NB130_102.out; have hnc43 := NB102_130.out; have hnb44 := NB130_103.out; have hnc44 := NB103_130.out; have hnb45 := NB130_118.out; have hnc45 := NB118_130.out; have hcz46_0 : w41.cell? ⟨gb130, 0, none⟩ = some (.int .i64 0) := (blk_cell BK130.out 0).trans rfl; have hcz46_1 : w41.cell? ⟨gb130, 1, none⟩ = some (.int .i64 0) := (blk_cell BK130.out 1).trans rfl; have hcz46_2 : w41.cell? ⟨gb130, 2, none⟩ = some (.int .i64 0) := (blk_cell BK130.out 2).trans rfl; have hcz46_3 : w41.cell? ⟨gb130, 3, none⟩ = some (.int .i64 0) := (blk_cell BK130.out 3).trans rfl; have hcz46_4 : w41.cell? ⟨gb130, 4, none⟩ = some (.int .i64 0) := (blk_cell BK130.out 4).trans rfl; have hcz46_5 : w41.cell? ⟨gb130, 5, none⟩ = some (.int .i64 0) := (blk_cell BK130.out 5).trans rfl; have hcz46_6 : w41.cell? ⟨gb130, 6, none⟩ = some (.int .i64 0) := (blk_cell BK130.out 6).trans rfl; have hcz46_7 : w41.cell? ⟨gb130, 7, none⟩ = some (.int .i64 0) := (blk_cell BK130.out 7).trans rfl; have hcz46_8 : w41.cell? ⟨gb130, 8, none⟩ = some (.int .i64 0) := (blk_cell BK130.out 8).trans rfl; have hcz46_9 : w41.cell? ⟨gb130, 9, none⟩ = some (.bool false) := (blk_cell BK130.out 9).trans rfl; have hfz46_0 := blk_frozen BK130.out 0; have hfz46_1 := blk_frozen BK130.out 1; have hfz46_2 := blk_frozen BK130.out 2; have hfz46_3 := blk_frozen BK130.out 3; have hfz46_4 := blk_frozen BK130.out 4; have hfz46_5 := blk_frozen BK130.out 5; have hfz46_6 := blk_frozen BK130.out 6; have hfz46_7 := blk_frozen BK130.out 7; have hfz46_8 := blk_frozen BK130.out 8; have hfz46_9 := blk_frozen BK130.out 9))
            have n0_ : Aside0 (((((((((((w41.setCell ⟨gb130, 0, none⟩ (.int .i64 t119)).setCell ⟨gb130, 1, none⟩ (.int .i64 t120)).setCell ⟨gb130, 2, none⟩ (.int .i64 t121)).setCell ⟨gb130, 3, none⟩ (.int .i64 t122)).setCell ⟨gb130, 4, none⟩ (.int .i64 t123)).setCell ⟨gb130, 5, none⟩ (.int .i64 t124)).setCell ⟨gb130, 6, none⟩ (.int .i64 t125)).setCell ⟨gb130, 7, none⟩ (.int .i64 t126)).setCell ⟨gb130, 8, none⟩ (.int .i64 t127)).setCell ⟨gb130, 9, none⟩ (.bool t128)).heap[gb101]? = some (.cells #[.int .i64 a0_0, .int .i64 a0_1, .int .i64 a0_2, .int .i64 a0_3, .int .i64 a0_4, .int .i64 a0_5, .int .i64 a0_6, .int .i64 a0_7, .int .i64 a0_8, .bool a0_9] 23 (0, 0))) := ⟨by (with_reducible repeat first | apply bN_ | apply bD_ | apply bA_); refine blk_far ?_ NB101_130.out _; (with_reducible repeat first | apply bN_ | apply bD_ | apply bA_); refine blk_far ?_ NB101_130.out _; (with_reducible repeat first | apply bN_ | apply bD_ | apply bA_); refine blk_far ?_ NB101_130.out _; (with_reducible repeat first | apply bN_ | apply bD_ | apply bA_); refine blk_far ?_ NB101_130.out _; (with_reducible repeat first | apply bN_ | apply bD_ | apply bA_); refine blk_far ?_ NB101_130.out _; (with_reducible repeat first | apply bN_ | apply bD_ | apply bA_); refine blk_far ?_ NB101_130.out _; (with_reducible repeat first | apply bN_ | apply bD_ | apply bA_); refine blk_far ?_ NB101_130.out _; (with_reducible repeat first | apply bN_ | apply bD_ | apply bA_); refine blk_far ?_ NB101_130.out _; (with_reducible repeat first | apply bN_ | apply bD_ | apply bA_); refine blk_far ?_ NB101_130.out _; (with_reducible repeat first | apply bN_ | apply bD_ | apply bA_); refine blk_far ?_ NB101_130.out _; (with_reducible repeat first | apply bN_ | apply bD_ | apply bA_); exact BK101.out⟩
            have n1_ : Aside0 (((((((((((w41.setCell ⟨gb130, 0, none⟩ (.int .i64 t119)).setCell ⟨gb130, 1, none⟩ (.int .i64 t120)).setCell ⟨gb130, 2, none⟩ (.int .i64 t121)).setCell ⟨gb130, 3, none⟩ (.int .i64 t122)).setCell ⟨gb130, 4, none⟩ (.int .i64 t123)).setCell ⟨gb130, 5, none⟩ (.int .i64 t124)).setCell ⟨gb130, 6, none⟩ (.int .i64 t125)).setCell ⟨gb130, 7, none⟩ (.int .i64 t126)).setCell ⟨gb130, 8, none⟩ (.int .i64 t127)).setCell ⟨gb130, 9, none⟩ (.bool t128)).heap[gb102]? = some (.cells #[.int .i64 a1_0, .string a1_1, .int .i64 a1_2, .int .i64 a1_3] 34 (0, 0))) := ⟨by (with_reducible repeat first | apply bN_ | apply bD_ | apply bA_); refine blk_far ?_ NB102_130.out _; (with_reducible repeat first | apply bN_ | apply bD_ | apply bA_); refine blk_far ?_ NB102_130.out _; (with_reducible repeat first | apply bN_ | apply bD_ | apply bA_); refine blk_far ?_ NB102_130.out _; (with_reducible repeat first | apply bN_ | apply bD_ | apply bA_); refine blk_far ?_ NB102_130.out _; (with_reducible repeat first | apply bN_ | apply bD_ | apply bA_); refine blk_far ?_ NB102_130.out _; (with_reducible repeat first | apply bN_ | apply bD_ | apply bA_); refine blk_far ?_ NB102_130.out _; (with_reducible repeat first | apply bN_ | apply bD_ | apply bA_); refine blk_far ?_ NB102_130.out _; (with_reducible repeat first | apply bN_ | apply bD_ | apply bA_); refine blk_far ?_ NB102_130.out _; (with_reducible repeat first | apply bN_ | apply bD_ | apply bA_); refine blk_far ?_ NB102_130.out _; (with_reducible repeat first | apply bN_ | apply bD_ | apply bA_); refine blk_far ?_ NB102_130.out _; (with_reducible repeat first | apply bN_ | apply bD_ | apply bA_); exact BK102.out⟩
            have n2_ : Aside0 (((((((((((w41.setCell ⟨gb130, 0, none⟩ (.int .i64 t119)).setCell ⟨gb130, 1, none⟩ (.int .i64 t120)).setCell ⟨gb130, 2, none⟩ (.int .i64 t121)).setCell ⟨gb130, 3, none⟩ (.int .i64 t122)).setCell ⟨gb130, 4, none⟩ (.int .i64 t123)).setCell ⟨gb130, 5, none⟩ (.int .i64 t124)).setCell ⟨gb130, 6, none⟩ (.int .i64 t125)).setCell ⟨gb130, 7, none⟩ (.int .i64 t126)).setCell ⟨gb130, 8, none⟩ (.int .i64 t127)).setCell ⟨gb130, 9, none⟩ (.bool t128)).heap[gb103]? = some (.cells #[.int .i64 a2_0, .int .i64 a2_1, .int .i64 a2_2, .int .u64 a2_3] 26 (0, 0))) := ⟨by (with_reducible repeat first | apply bN_ | apply bD_ | apply bA_); refine blk_far ?_ NB103_130.out _; (with_reducible repeat first | apply bN_ | apply bD_ | apply bA_); refine blk_far ?_ NB103_130.out _; (with_reducible repeat first | apply bN_ | apply bD_ | apply bA_); refine blk_far ?_ NB103_130.out _; (with_reducible repeat first | apply bN_ | apply bD_ | apply bA_); refine blk_far ?_ NB103_130.out _; (with_reducible repeat first | apply bN_ | apply bD_ | apply bA_); refine blk_far ?_ NB103_130.out _; (with_reducible repeat first | apply bN_ | apply bD_ | apply bA_); refine blk_far ?_ NB103_130.out _; (with_reducible repeat first | apply bN_ | apply bD_ | apply bA_); refine blk_far ?_ NB103_130.out _; (with_reducible repeat first | apply bN_ | apply bD_ | apply bA_); refine blk_far ?_ NB103_130.out _; (with_reducible repeat first | apply bN_ | apply bD_ | apply bA_); refine blk_far ?_ NB103_130.out _; (with_reducible repeat first | apply bN_ | apply bD_ | apply bA_); refine blk_far ?_ NB103_130.out _; (with_reducible repeat first | apply bN_ | apply bD_ | apply bA_); exact BK103.out⟩
            have n3_ : Aside0 (((((((((((w41.setCell ⟨gb130, 0, none⟩ (.int .i64 t119)).setCell ⟨gb130, 1, none⟩ (.int .i64 t120)).setCell ⟨gb130, 2, none⟩ (.int .i64 t121)).setCell ⟨gb130, 3, none⟩ (.int .i64 t122)).setCell ⟨gb130, 4, none⟩ (.int .i64 t123)).setCell ⟨gb130, 5, none⟩ (.int .i64 t124)).setCell ⟨gb130, 6, none⟩ (.int .i64 t125)).setCell ⟨gb130, 7, none⟩ (.int .i64 t126)).setCell ⟨gb130, 8, none⟩ (.int .i64 t127)).setCell ⟨gb130, 9, none⟩ (.bool t128)).heap[gb118]? = some (.cells #[.int .i64 t107, .int .i64 t108, .int .i64 t109, .int .i64 t110, .int .i64 t111, .int .i64 t112, .int .i64 t113, .int .i64 t114, .int .i64 t115, .bool t116] 23 (0, 0))) := ⟨by (with_reducible repeat first | apply bN_ | apply bD_ | apply bA_); refine blk_far ?_ NB118_130.out _; (with_reducible repeat first | apply bN_ | apply bD_ | apply bA_); refine blk_far ?_ NB118_130.out _; (with_reducible repeat first | apply bN_ | apply bD_ | apply bA_); refine blk_far ?_ NB118_130.out _; (with_reducible repeat first | apply bN_ | apply bD_ | apply bA_); refine blk_far ?_ NB118_130.out _; (with_reducible repeat first | apply bN_ | apply bD_ | apply bA_); refine blk_far ?_ NB118_130.out _; (with_reducible repeat first | apply bN_ | apply bD_ | apply bA_); refine blk_far ?_ NB118_130.out _; (with_reducible repeat first | apply bN_ | apply bD_ | apply bA_); refine blk_far ?_ NB118_130.out _; (with_reducible repeat first | apply bN_ | apply bD_ | apply bA_); refine blk_far ?_ NB118_130.out _; (with_reducible repeat first | apply bN_ | apply bD_ | apply bA_); refine blk_far ?_ NB118_130.out _; (with_reducible repeat first | apply bN_ | apply bD_ | apply bA_); refine blk_far ?_ NB118_130.out _; (with_reducible repeat first | apply bN_ | apply bD_ | apply bA_); exact BK118.out⟩
            have n4_ : Aside0 (((((((((((w41.setCell ⟨gb130, 0, none⟩ (.int .i64 t119)).setCell ⟨gb130, 1, none⟩ (.int .i64 t120)).setCell ⟨gb130, 2, none⟩ (.int .i64 t121)).setCell ⟨gb130, 3, none⟩ (.int .i64 t122)).setCell ⟨gb130, 4, none⟩ (.int .i64 t123)).setCell ⟨gb130, 5, none⟩ (.int .i64 t124)).setCell ⟨gb130, 6, none⟩ (.int .i64 t125)).setCell ⟨gb130, 7, none⟩ (.int .i64 t126)).setCell ⟨gb130, 8, none⟩ (.int .i64 t127)).setCell ⟨gb130, 9, none⟩ (.bool t128)).heap[gb130]? = some (.cells #[.int .i64 t119, .int .i64 t120, .int .i64 t121, .int .i64 t122, .int .i64 t123, .int .i64 t124, .int .i64 t125, .int .i64 t126, .int .i64 t127, .bool t128] 23 (0, 0))) := ⟨by (with_reducible repeat first | apply bN_ | apply bD_ | apply bA_); refine blk_put (cs := #[.int .i64 t119, .int .i64 t120, .int .i64 t121, .int .i64 t122, .int .i64 t123, .int .i64 t124, .int .i64 t125, .int .i64 t126, .int .i64 t127, .bool false]) ?_ 9 _ rfl; (with_reducible repeat first | apply bN_ | apply bD_ | apply bA_); refine blk_put (cs := #[.int .i64 t119, .int .i64 t120, .int .i64 t121, .int .i64 t122, .int .i64 t123, .int .i64 t124, .int .i64 t125, .int .i64 t126, .int .i64 0, .bool false]) ?_ 8 _ rfl; (with_reducible repeat first | apply bN_ | apply bD_ | apply bA_); refine blk_put (cs := #[.int .i64 t119, .int .i64 t120, .int .i64 t121, .int .i64 t122, .int .i64 t123, .int .i64 t124, .int .i64 t125, .int .i64 0, .int .i64 0, .bool false]) ?_ 7 _ rfl; (with_reducible repeat first | apply bN_ | apply bD_ | apply bA_); refine blk_put (cs := #[.int .i64 t119, .int .i64 t120, .int .i64 t121, .int .i64 t122, .int .i64 t123, .int .i64 t124, .int .i64 0, .int .i64 0, .int .i64 0, .bool false]) ?_ 6 _ rfl; (with_reducible repeat first | apply bN_ | apply bD_ | apply bA_); refine blk_put (cs := #[.int .i64 t119, .int .i64 t120, .int .i64 t121, .int .i64 t122, .int .i64 t123, .int .i64 0, .int .i64 0, .int .i64 0, .int .i64 0, .bool false]) ?_ 5 _ rfl; (with_reducible repeat first | apply bN_ | apply bD_ | apply bA_); refine blk_put (cs := #[.int .i64 t119, .int .i64 t120, .int .i64 t121, .int .i64 t122, .int .i64 0, .int .i64 0, .int .i64 0, .int .i64 0, .int .i64 0, .bool false]) ?_ 4 _ rfl; (with_reducible repeat first | apply bN_ | apply bD_ | apply bA_); refine blk_put (cs := #[.int .i64 t119, .int .i64 t120, .int .i64 t121, .int .i64 0, .int .i64 0, .int .i64 0, .int .i64 0, .int .i64 0, .int .i64 0, .bool false]) ?_ 3 _ rfl; (with_reducible repeat first | apply bN_ | apply bD_ | apply bA_); refine blk_put (cs := #[.int .i64 t119, .int .i64 t120, .int .i64 0, .int .i64 0, .int .i64 0, .int .i64 0, .int .i64 0, .int .i64 0, .int .i64 0, .bool false]) ?_ 2 _ rfl; (with_reducible repeat first | apply bN_ | apply bD_ | apply bA_); refine blk_put (cs := #[.int .i64 t119, .int .i64 0, .int .i64 0, .int .i64 0, .int .i64 0, .int .i64 0, .int .i64 0, .int .i64 0, .int .i64 0, .bool false]) ?_ 1 _ rfl; (with_reducible repeat first | apply bN_ | apply bD_ | apply bA_); refine blk_put (cs := #[.int .i64 0, .int .i64 0, .int .i64 0, .int .i64 0, .int .i64 0, .int .i64 0, .int .i64 0, .int .i64 0, .int .i64 0, .bool false]) ?_ 0 _ rfl; (with_reducible repeat first | apply bN_ | apply bD_ | apply bA_); exact BK130.out⟩
            have n5_ : Aside0 (Below w.heap.size w ((((((((((w41.setCell ⟨gb130, 0, none⟩ (.int .i64 t119)).setCell ⟨gb130, 1, none⟩ (.int .i64 t120)).setCell ⟨gb130, 2, none⟩ (.int .i64 t121)).setCell ⟨gb130, 3, none⟩ (.int .i64 t122)).setCell ⟨gb130, 4, none⟩ (.int .i64 t123)).setCell ⟨gb130, 5, none⟩ (.int .i64 t124)).setCell ⟨gb130, 6, none⟩ (.int .i64 t125)).setCell ⟨gb130, 7, none⟩ (.int .i64 t126)).setCell ⟨gb130, 8, none⟩ (.int .i64 t127)).setCell ⟨gb130, 9, none⟩ (.bool t128))) := ⟨by repeat (first | (with_reducible first | exact HB.out | apply wA_ | apply wN_ | apply wD_ | refine below_set ?_ GE101.out | refine below_set ?_ GE102.out | refine below_set ?_ GE103.out | refine below_set ?_ GE118.out | refine below_set ?_ GE130.out) | exact HB.out)⟩
            (try clear BK101)
            (try clear BK102)
            (try clear BK103)
            (try clear BK118)
            (try clear BK130)
            (try clear HB)
            generalize ((((((((((w41.setCell ⟨gb130, 0, none⟩ (.int .i64 t119)).setCell ⟨gb130, 1, none⟩ (.int .i64 t120)).setCell ⟨gb130, 2, none⟩ (.int .i64 t121)).setCell ⟨gb130, 3, none⟩ (.int .i64 t122)).setCell ⟨gb130, 4, none⟩ (.int .i64 t123)).setCell ⟨gb130, 5, none⟩ (.int .i64 t124)).setCell ⟨gb130, 6, none⟩ (.int .i64 t125)).setCell ⟨gb130, 7, none⟩ (.int .i64 t126)).setCell ⟨gb130, 8, none⟩ (.int .i64 t127)).setCell ⟨gb130, 9, none⟩ (.bool t128)) = w47 at n0_ n1_ n2_ n3_ n4_ n5_ ⊢
            have BK101 := n0_
            have BK102 := n1_
            have BK103 := n2_
            have BK118 := n3_
            have BK130 := n4_
            have HB := n5_
            clear n0_ n1_ n2_ n3_ n4_ n5_
            have n0_ := Aside0.mk (blk_drew BK101.out)
            have n1_ := Aside0.mk (blk_drew BK102.out)
            have n2_ := Aside0.mk (blk_drew BK103.out)
            have n3_ := Aside0.mk (blk_drew BK118.out)
            have n4_ := Aside0.mk (blk_drew BK130.out)
            have n5_ := Aside0.mk (below_drew1 HB.out)
            clear BK101 BK102
            clear BK103 BK118
            clear BK130 HB
            have BK101 := n0_
            have BK102 := n1_
            have BK103 := n2_
            have BK118 := n3_
            have BK130 := n4_
            have HB := n5_
            clear n0_ n1_ n2_ n3_ n4_ n5_
            refine start_ (n := 15) (S := fun w' => w'.cell? ⟨gb101, 0, none⟩ = some (.int .i64 a0_0) ∧ w'.cell? ⟨gb101, 1, none⟩ = some (.int .i64 a0_1) ∧ w'.cell? ⟨gb101, 2, none⟩ = some (.int .i64 a0_2) ∧ w'.cell? ⟨gb101, 3, none⟩ = some (.int .i64 a0_3) ∧ w'.cell? ⟨gb101, 4, none⟩ = some (.int .i64 a0_4) ∧ w'.cell? ⟨gb101, 5, none⟩ = some (.int .i64 a0_5) ∧ w'.cell? ⟨gb101, 6, none⟩ = some (.int .i64 a0_6) ∧ w'.cell? ⟨gb101, 7, none⟩ = some (.int .i64 a0_7) ∧ w'.cell? ⟨gb101, 8, none⟩ = some (.int .i64 a0_8) ∧ w'.cell? ⟨gb101, 9, none⟩ = some (.bool a0_9)) (ds := []) #[false, false, false, false, false, false, false, false, false, false, false, false, false, false, false] (by kernel_rfl) rfl rfl ⟨(blk_cell BK101.out 0).trans rfl, (blk_cell BK101.out 1).trans rfl, (blk_cell BK101.out 2).trans rfl, (blk_cell BK101.out 3).trans rfl, (blk_cell BK101.out 4).trans rfl, (blk_cell BK101.out 5).trans rfl, (blk_cell BK101.out 6).trans rfl, (blk_cell BK101.out 7).trans rfl, (blk_cell BK101.out 8).trans rfl, (blk_cell BK101.out 9).trans rfl⟩ (fun hHeld => ?_); refine with_tabW bailiwicklaw14_RecBack.tab8 bailiwicklaw14_RecBack.bits8 (fun HT_ HW_ => ?_)
            generalize w47.drew = w48 at BK101 BK102 BK103 BK118 BK130 HB hHeld ⊢
            refine pure_ (i := 0) (N := some 59) (v := ?_) (a' := ?_) #[true, false, false, false, false, false, false, false, false, false, false, false, false, false, false] rfl rfl (any_of HT_.out (by kernel_rfl)) (fun _ _ _ h => h) (Or.inl ⟨by rfl, ?_⟩) ?_ ?_
            rotate_left
            ·
             intro w'
             go_simp
             with_reducible rfl
            rotate_left
            ·
             simp only [Act.put, List.setIfInBounds_toArray, List.set_cons_zero, List.set_cons_succ, i64_w, i32_w]
             rfl
            refine pure_ (i := 2) (N := some 61) (v := ?_) (a' := ?_) #[true, false, true, false, false, false, false, false, false, false, false, false, false, false, false] rfl rfl (any_of HT_.out (by kernel_rfl)) (fun _ _ _ h => h) (Or.inl ⟨by rfl, ?_⟩) ?_ ?_
            rotate_left
            ·
             intro w'
             go_simp
             with_reducible rfl
            rotate_left
            ·
             simp only [Act.put, List.setIfInBounds_toArray, List.set_cons_zero, List.set_cons_succ, i64_w, i32_w]
             rfl
            refine pure_ (i := 3) (N := some 62) (v := ?_) (a' := ?_) #[true, false, true, true, false, false, false, false, false, false, false, false, false, false, false] rfl rfl (any_of HT_.out (by kernel_rfl)) (fun _ _ _ h => h) (Or.inl ⟨by rfl, ?_⟩) ?_ ?_
            rotate_left
            ·
             intro w'
             go_simp
             with_reducible rfl
            rotate_left
            ·
             simp only [Act.put, List.setIfInBounds_toArray, List.set_cons_zero, List.set_cons_succ, i64_w, i32_w]
             rfl
            refine pure_ (i := 4) (N := some 63) (v := ?_) (a' := ?_) #[true, false, true, true, true, false, false, false, false, false, false, false, false, false, false] rfl rfl (any_of HT_.out (by kernel_rfl)) (fun _ _ _ h => h) (Or.inl ⟨by rfl, ?_⟩) ?_ ?_
            rotate_left
            ·
             intro w'
             go_simp
             with_reducible rfl
            rotate_left
            ·
             simp only [Act.put, List.setIfInBounds_toArray, List.set_cons_zero, List.set_cons_succ, i64_w, i32_w]
             rfl
            refine pure_ (i := 5) (N := some 64) (v := ?_) (a' := ?_) #[true, false, true, true, true, true, false, false, false, false, false, false, false, false, false] rfl rfl (any_of HT_.out (by kernel_rfl)) (fun _ _ _ h => h) (Or.inl ⟨by rfl, ?_⟩) ?_ ?_
            rotate_left
            ·
             intro w'
             go_simp
             with_reducible rfl
            rotate_left
            ·
             simp only [Act.put, List.setIfInBounds_toArray, List.set_cons_zero, List.set_cons_succ, i64_w, i32_w]
             rfl
            refine pure_ (i := 6) (N := some 65) (v := ?_) (a' := ?_) #[true, false, true, true, true, true, true, false, false, false, false, false, false, false, false] rfl rfl (any_of HT_.out (by kernel_rfl)) (fun _ _ _ h => h) (Or.inl ⟨by rfl, ?_⟩) ?_ ?_
            rotate_left
            ·
             intro w'
             go_simp
             with_reducible rfl
            rotate_left
            ·
             simp only [Act.put, List.setIfInBounds_toArray, List.set_cons_zero, List.set_cons_succ, i64_w, i32_w]
             rfl
            refine pure_ (i := 7) (N := some 66) (v := ?_) (a' := ?_) #[true, false, true, true, true, true, true, true, false, false, false, false, false, false, false] rfl rfl (any_of HT_.out (by kernel_rfl)) (fun _ _ _ h => h) (Or.inl ⟨by rfl, ?_⟩) ?_ ?_
            rotate_left
            ·
             intro w'
             go_simp
             with_reducible rfl
            rotate_left
            ·
             simp only [Act.put, List.setIfInBounds_toArray, List.set_cons_zero, List.set_cons_succ, i64_w, i32_w]
             rfl
            refine take_ (i := 1) (N := some 60) (v := ?_) (a' := ?_) #[true, true, true, true, true, true, true, true, false, false, false, false, false, false, false] rfl rfl (take_ofW HT_.out HW_.out (by kernel_rfl)) (fun _ _ _ h => h) (Or.inl ⟨by rfl, ?_⟩) hHeld ?_ ?_
            rotate_left
            ·
             rintro w' ⟨s0, s1, s2, s3, s4, s5, s6, s7, s8, s9⟩
             go_simp
             with_reducible rfl
            rotate_left
            ·
             simp only [Act.put, List.setIfInBounds_toArray, List.set_cons_zero, List.set_cons_succ, i64_w, i32_w]
             rfl
            refine join_ (σ := Nat) 2 #[true, true, true, true, true, true, true, true, true, true, true, true, true, false, false] (fun s_ => [(67, .tuple #[.agg #[.int .i64 t131, .int .i64 t132, .int .i64 t133, .int .i64 t134, .int .i64 t135, .int .i64 t136, .int .i64 t137, .int .i64 t138, .int .i64 t139, .bool t140], .int .i64 t141]), (16, .pointer (some ⟨s_, 0, none⟩)), (58, .tuple #[.agg #[.int .i64 t131, .int .i64 t132, .int .i64 t133, .int .i64 t134, .int .i64 t135, .int .i64 t136, .int .i64 t137, .int .i64 t138, .int .i64 t139, .bool t140], .int .i64 t141]), (68, .agg #[.int .i64 t131, .int .i64 t132, .int .i64 t133, .int .i64 t134, .int .i64 t135, .int .i64 t136, .int .i64 t137, .int .i64 t138, .int .i64 t139, .bool t140]), (69, .int .i64 t141)]) (fun s_ w' => (w'.cell? ⟨gb101, 0, none⟩ = some (.int .i64 a0_0) ∧ w'.cell? ⟨gb101, 1, none⟩ = some (.int .i64 a0_1) ∧ w'.cell? ⟨gb101, 2, none⟩ = some (.int .i64 a0_2) ∧ w'.cell? ⟨gb101, 3, none⟩ = some (.int .i64 a0_3) ∧ w'.cell? ⟨gb101, 4, none⟩ = some (.int .i64 a0_4) ∧ w'.cell? ⟨gb101, 5, none⟩ = some (.int .i64 a0_5) ∧ w'.cell? ⟨gb101, 6, none⟩ = some (.int .i64 a0_6) ∧ w'.cell? ⟨gb101, 7, none⟩ = some (.int .i64 a0_7) ∧ w'.cell? ⟨gb101, 8, none⟩ = some (.int .i64 a0_8) ∧ w'.cell? ⟨gb101, 9, none⟩ = some (.bool a0_9)) ∧ (w'.heap[gb101]? = some (.cells #[.int .i64 a0_0, .int .i64 a0_1, .int .i64 a0_2, .int .i64 a0_3, .int .i64 a0_4, .int .i64 a0_5, .int .i64 a0_6, .int .i64 a0_7, .int .i64 a0_8, .bool a0_9] 23 (0, 0))) ∧ (w'.heap[gb102]? = some (.cells #[.int .i64 a1_0, .string a1_1, .int .i64 a1_2, .int .i64 a1_3] 34 (0, 0))) ∧ (w'.heap[gb103]? = some (.cells #[.int .i64 a2_0, .int .i64 a2_1, .int .i64 a2_2, .int .u64 a2_3] 26 (0, 0))) ∧ (w'.heap[gb118]? = some (.cells #[.int .i64 t107, .int .i64 t108, .int .i64 t109, .int .i64 t110, .int .i64 t111, .int .i64 t112, .int .i64 t113, .int .i64 t114, .int .i64 t115, .bool t116] 23 (0, 0))) ∧ (w'.heap[gb130]? = some (.cells #[.int .i64 t119, .int .i64 t120, .int .i64 t121, .int .i64 t122, .int .i64 t123, .int .i64 t124, .int .i64 t125, .int .i64 t126, .int .i64 t127, .bool t128] 23 (0, 0))) ∧ (w'.heap[s_]? = some (.cells #[.int .i64 0, .int .i64 0, .int .i64 0, .int .i64 0, .int .i64 0, .int .i64 0, .int .i64 0, .int .i64 0, .int .i64 0, .bool false] 23 (0, 0))) ∧ (w.heap.size ≤ s_) ∧ (w.heap.size ≤ s_) ∧ (gb101 ≠ s_) ∧ (s_ ≠ gb101) ∧ (gb102 ≠ s_) ∧ (s_ ≠ gb102) ∧ (gb103 ≠ s_) ∧ (s_ ≠ gb103) ∧ (gb118 ≠ s_) ∧ (s_ ≠ gb118) ∧ (gb130 ≠ s_) ∧ (s_ ≠ gb130) ∧ (Below w.heap.size w w')) ?_ ?_
            rotate_left
            ·
             intro hCont
             refine two_ (i := 8) (j := 12) (Ni := some 67) (Nj := some 16) #[true, true, true, true, true, true, true, true, true, false, false, false, false, false, false] #[true, true, true, true, true, true, true, true, false, false, false, false, true, false, false] rfl rfl rfl rfl (two_of HT_.out (by kernel_rfl)) (by decide) (by decide) (fun K hK => ?_) (fun K hK => ?_)
             ·
              skip
              refine goes_ Try.func21 (by kernel_rfl) rfl #[.int .i64 a0_0, .string (t105.extract 0 ((ji21) : Int).toNat)] (by rfl) rfl rfl (by (try simp only [List.map_toArray, List.map_cons, List.map_nil]); first | done | (simp only [hji21]; rfl) | rfl | (simp only [List.length_drop, List.length_take]; rfl)) ?_
              with_reducible refine (G.xTakeCap.calls a0_0 (t105.extract 0 ((ji21) : Int).toNat) t131 t132 t133 t134 t135 t136 t137 t138 t139 t140 t141 _ A24.out).mono ?_
              rintro e w49 ⟨rfl, hb⟩
              refine ⟨_, rfl, ?_⟩
              have n0_ := Aside0.mk (blk_below (g := gb101) (o := oB0_ a0_0 a0_1 a0_2 a0_3 a0_4 a0_5 a0_6 a0_7 a0_8 a0_9) (by (with_reducible repeat first | apply bN_ | apply bD_ | apply bA_); exact BK101.out) hb)
              have n1_ := Aside0.mk (blk_below (g := gb102) (o := oB1_ a1_0 a1_1 a1_2 a1_3) (by (with_reducible repeat first | apply bN_ | apply bD_ | apply bA_); exact BK102.out) hb)
              have n2_ := Aside0.mk (blk_below (g := gb103) (o := oB2_ a2_0 a2_1 a2_2 a2_3) (by (with_reducible repeat first | apply bN_ | apply bD_ | apply bA_); exact BK103.out) hb)
              have n3_ := Aside0.mk (blk_below (g := gb118) (o := oB0_ t107 t108 t109 t110 t111 t112 t113 t114 t115 t116) (by (with_reducible repeat first | apply bN_ | apply bD_ | apply bA_); exact BK118.out) hb)
              have n4_ := Aside0.mk (blk_below (g := gb130) (o := oB0_ t119 t120 t121 t122 t123 t124 t125 t126 t127 t128) (by (with_reducible repeat first | apply bN_ | apply bD_ | apply bA_); exact BK130.out) hb)
              have n5_ := Aside0.mk (below_step (by repeat (first | (with_reducible first | exact HB.out | apply wA_ | apply wN_ | apply wD_ | refine below_set ?_ GE101.out | refine below_set ?_ GE102.out | refine below_set ?_ GE103.out | refine below_set ?_ GE118.out | refine below_set ?_ GE130.out) | exact HB.out)) hb)
              clear BK101 BK102
              clear BK103 BK118
              clear BK130 HB
              have BK101 := n0_
              have BK102 := n1_
              have BK103 := n2_
              have BK118 := n3_
              have BK130 := n4_
              have HB := n5_
              clear n0_ n1_ n2_ n3_ n4_ n5_
              (try clear hb)
              (try clear hb2)
              (try clear hk)
              (try clear hi)
              refine hK.out _ _ ⟨(blk_cell BK101.out 0).trans rfl, (blk_cell BK101.out 1).trans rfl, (blk_cell BK101.out 2).trans rfl, (blk_cell BK101.out 3).trans rfl, (blk_cell BK101.out 4).trans rfl, (blk_cell BK101.out 5).trans rfl, (blk_cell BK101.out 6).trans rfl, (blk_cell BK101.out 7).trans rfl, (blk_cell BK101.out 8).trans rfl, (blk_cell BK101.out 9).trans rfl⟩ (fun hHeld => ?_)
              clear hK K
              refine norm_ (a' := ?_) ?_ ?_
              rotate_left
              ·
               show Act.put _ (some 67) _ = _
               simp only [Act.put, List.setIfInBounds_toArray, List.set_cons_zero, List.set_cons_succ, i64_w, i32_w]
               rfl
              refine pure_ (i := 9) (N := some 58) (v := ?_) (a' := ?_) #[true, true, true, true, true, true, true, true, true, true, false, false, false, false, false] rfl rfl (any_of HT_.out (by kernel_rfl)) (fun _ _ _ h => h) (Or.inl ⟨by rfl, ?_⟩) ?_ ?_
              rotate_left
              ·
               intro w'
               go_simp
               with_reducible rfl
              rotate_left
              ·
               simp only [Act.put, List.setIfInBounds_toArray, List.set_cons_zero, List.set_cons_succ, i64_w, i32_w]
               rfl
              refine pure_ (i := 10) (N := some 68) (v := ?_) (a' := ?_) #[true, true, true, true, true, true, true, true, true, true, true, false, false, false, false] rfl rfl (any_of HT_.out (by kernel_rfl)) (fun _ _ _ h => h) (Or.inl ⟨by rfl, ?_⟩) ?_ ?_
              rotate_left
              ·
               intro w'
               go_simp
               with_reducible rfl
              rotate_left
              ·
               simp only [Act.put, List.setIfInBounds_toArray, List.set_cons_zero, List.set_cons_succ, i64_w, i32_w]
               rfl
              refine pure_ (i := 11) (N := some 69) (v := ?_) (a' := ?_) #[true, true, true, true, true, true, true, true, true, true, true, true, false, false, false] rfl rfl (any_of HT_.out (by kernel_rfl)) (fun _ _ _ h => h) (Or.inl ⟨by rfl, ?_⟩) ?_ ?_
              rotate_left
              ·
               intro w'
               go_simp
               with_reducible rfl
              rotate_left
              ·
               simp only [Act.put, List.setIfInBounds_toArray, List.set_cons_zero, List.set_cons_succ, i64_w, i32_w]
               rfl
              refine one_ (i := 12) (N := some 16) #[true, true, true, true, true, true, true, true, true, true, true, true, true, false, false] rfl rfl (one_of HT_.out (by kernel_rfl)) (by decide) (fun K hK => ?_)
              refine box_step ?hg (N := 16) ?hd (cs := #[.int .i64 0, .int .i64 0, .int .i64 0, .int .i64 0, .int .i64 0, .int .i64 0, .int .i64 0, .int .i64 0, .int .i64 0, .bool false]) (t := 23) ?hr ?_; (case hd => rfl); (case hg => rfl); (case hr => first | (go_simp; done) | (go_simp; rfl))
              intro gb142 hg w50 hbox hb
              have n0_ := Aside0.mk (blk_below (g := gb101) (o := oB0_ a0_0 a0_1 a0_2 a0_3 a0_4 a0_5 a0_6 a0_7 a0_8 a0_9) (by (with_reducible repeat first | apply bN_ | apply bD_ | apply bA_); exact BK101.out) hb)
              have n1_ := Aside0.mk (blk_below (g := gb102) (o := oB1_ a1_0 a1_1 a1_2 a1_3) (by (with_reducible repeat first | apply bN_ | apply bD_ | apply bA_); exact BK102.out) hb)
              have n2_ := Aside0.mk (blk_below (g := gb103) (o := oB2_ a2_0 a2_1 a2_2 a2_3) (by (with_reducible repeat first | apply bN_ | apply bD_ | apply bA_); exact BK103.out) hb)
              have n3_ := Aside0.mk (blk_below (g := gb118) (o := oB0_ t107 t108 t109 t110 t111 t112 t113 t114 t115 t116) (by (with_reducible repeat first | apply bN_ | apply bD_ | apply bA_); exact BK118.out) hb)
              have n4_ := Aside0.mk (blk_below (g := gb130) (o := oB0_ t119 t120 t121 t122 t123 t124 t125 t126 t127 t128) (by (with_reducible repeat first | apply bN_ | apply bD_ | apply bA_); exact BK130.out) hb)
              have n5_ := Aside0.mk (below_step (by repeat (first | (with_reducible first | exact HB.out | apply wA_ | apply wN_ | apply wD_ | refine below_set ?_ GE101.out | refine below_set ?_ GE102.out | refine below_set ?_ GE103.out | refine below_set ?_ GE118.out | refine below_set ?_ GE130.out) | exact HB.out)) hb)
              have n6_ := Aside0.mk (hbox)
              have n7_ := Aside0.mk ((by rw [hg]; exact (below_size (by repeat (first | (with_reducible first | exact HB.out | apply wA_ | apply wN_ | apply wD_ | refine below_set ?_ GE101.out | refine below_set ?_ GE102.out | refine below_set ?_ GE103.out | refine below_set ?_ GE118.out | refine below_set ?_ GE130.out) | exact HB.out))) : w.heap.size ≤ gb142))
              have n8_ := Aside0.mk ((by rw [hg]; exact (below_size (by repeat (first | (with_reducible first | exact HB.out | apply wA_ | apply wN_ | apply wD_ | refine below_set ?_ GE101.out | refine below_set ?_ GE102.out | refine below_set ?_ GE103.out | refine below_set ?_ GE118.out | refine below_set ?_ GE130.out) | exact HB.out))) : w.heap.size ≤ gb142))
              have n9_ := Aside0.mk ((by rw [hg]; exact Nat.ne_of_lt (blk_lt (g := gb101) (o := oB0_ a0_0 a0_1 a0_2 a0_3 a0_4 a0_5 a0_6 a0_7 a0_8 a0_9) (by (with_reducible repeat first | apply bN_ | apply bD_ | apply bA_); exact BK101.out)) : gb101 ≠ gb142))
              have n10_ := Aside0.mk ((by rw [hg]; exact Nat.ne_of_gt (blk_lt (g := gb101) (o := oB0_ a0_0 a0_1 a0_2 a0_3 a0_4 a0_5 a0_6 a0_7 a0_8 a0_9) (by (with_reducible repeat first | apply bN_ | apply bD_ | apply bA_); exact BK101.out)) : gb142 ≠ gb101))
              have n11_ := Aside0.mk ((by rw [hg]; exact Nat.ne_of_lt (blk_lt (g := gb102) (o := oB1_ a1_0 a1_1 a1_2 a1_3) (by (with_reducible repeat first | apply bN_ | apply bD_ | apply bA_); exact BK102.out)) : gb102 ≠ gb142))
              have n12_ := Aside0.mk ((by rw [hg]; exact Nat.ne_of_gt (blk_lt (g := gb102) (o := oB1_ a1_0 a1_1 a1_2 a1_3) (by (with_reducible repeat first | apply bN_ | apply bD_ | apply bA_); exact BK102.out)) : gb142 ≠ gb102))
              have n13_ := Aside0.mk ((by rw [hg]; exact Nat.ne_of_lt (blk_lt (g := gb103) (o := oB2_ a2_0 a2_1 a2_2 a2_3) (by (with_reducible repeat first | apply bN_ | apply bD_ | apply bA_); exact BK103.out)) : gb103 ≠ gb142))
              have n14_ := Aside0.mk ((by rw [hg]; exact Nat.ne_of_gt (blk_lt (g := gb103) (o := oB2_ a2_0 a2_1 a2_2 a2_3) (by (with_reducible repeat first | apply bN_ | apply bD_ | apply bA_); exact BK103.out)) : gb142 ≠ gb103))
              have n15_ := Aside0.mk ((by rw [hg]; exact Nat.ne_of_lt (blk_lt (g := gb118) (o := oB0_ t107 t108 t109 t110 t111 t112 t113 t114 t115 t116) (by (with_reducible repeat first | apply bN_ | apply bD_ | apply bA_); exact BK118.out)) : gb118 ≠ gb142))
              have n16_ := Aside0.mk ((by rw [hg]; exact Nat.ne_of_gt (blk_lt (g := gb118) (o := oB0_ t107 t108 t109 t110 t111 t112 t113 t114 t115 t116) (by (with_reducible repeat first | apply bN_ | apply bD_ | apply bA_); exact BK118.out)) : gb142 ≠ gb118))
              have n17_ := Aside0.mk ((by rw [hg]; exact Nat.ne_of_lt (blk_lt (g := gb130) (o := oB0_ t119 t120 t121 t122 t123 t124 t125 t126 t127 t128) (by (with_reducible repeat first | apply bN_ | apply bD_ | apply bA_); exact BK130.out)) : gb130 ≠ gb142))
              have n18_ := Aside0.mk ((by rw [hg]; exact Nat.ne_of_gt (blk_lt (g := gb130) (o := oB0_ t119 t120 t121 t122 t123 t124 t125 t126 t127 t128) (by (with_reducible repeat first | apply bN_ | apply bD_ | apply bA_); exact BK130.out)) : gb142 ≠ gb130))
              clear BK101 BK102
              clear BK103 BK118
              clear BK130 HB
              have BK101 := n0_
              have BK102 := n1_
              have BK103 := n2_
              have BK118 := n3_
              have BK130 := n4_
              have HB := n5_
              have BK142 := n6_
              have GW142 := n7_
              have GE142 := n8_
              have NB101_142 := n9_
              have NB142_101 := n10_
              have NB102_142 := n11_
              have NB142_102 := n12_
              have NB103_142 := n13_
              have NB142_103 := n14_
              have NB118_142 := n15_
              have NB142_118 := n16_
              have NB130_142 := n17_
              have NB142_130 := n18_
              clear n0_ n1_ n2_ n3_ n4_ n5_ n6_ n7_ n8_ n9_ n10_ n11_ n12_ n13_ n14_ n15_ n16_ n17_ n18_
              clear hb hbox hg
              refine hK.out _ _ ⟨(blk_cell BK101.out 0).trans rfl, (blk_cell BK101.out 1).trans rfl, (blk_cell BK101.out 2).trans rfl, (blk_cell BK101.out 3).trans rfl, (blk_cell BK101.out 4).trans rfl, (blk_cell BK101.out 5).trans rfl, (blk_cell BK101.out 6).trans rfl, (blk_cell BK101.out 7).trans rfl, (blk_cell BK101.out 8).trans rfl, (blk_cell BK101.out 9).trans rfl⟩ (fun hHeld => ?_)
              clear hK K
              refine norm_ (a' := ?_) ?_ ?_
              rotate_left
              ·
               show Act.put _ (some 16) _ = _
               simp only [Act.put, List.setIfInBounds_toArray, List.set_cons_zero, List.set_cons_succ, i64_w, i32_w]
               rfl
              exact norm_ (by simp only [putAll, Act.put, List.setIfInBounds_toArray, List.set_cons_zero, List.set_cons_succ]) (hCont (gb142) _ ⟨hHeld, (by (with_reducible repeat first | apply bN_ | apply bD_ | apply bA_); exact BK101.out), (by (with_reducible repeat first | apply bN_ | apply bD_ | apply bA_); exact BK102.out), (by (with_reducible repeat first | apply bN_ | apply bD_ | apply bA_); exact BK103.out), (by (with_reducible repeat first | apply bN_ | apply bD_ | apply bA_); exact BK118.out), (by (with_reducible repeat first | apply bN_ | apply bD_ | apply bA_); exact BK130.out), (by (with_reducible repeat first | apply bN_ | apply bD_ | apply bA_); exact BK142.out), GW142.out, GE142.out, NB101_142.out, NB142_101.out, NB102_142.out, NB142_102.out, NB103_142.out, NB142_103.out, NB118_142.out, NB142_118.out, NB130_142.out, NB142_130.out, (by repeat (first | (with_reducible first | exact HB.out | apply wA_ | apply wN_ | apply wD_ | refine below_set ?_ GE101.out | refine below_set ?_ GE102.out | refine below_set ?_ GE103.out | refine below_set ?_ GE118.out | refine below_set ?_ GE130.out | refine below_set ?_ GE142.out) | exact HB.out))⟩)
             ·
              skip
              refine box_step ?hg (N := 16) ?hd (cs := #[.int .i64 0, .int .i64 0, .int .i64 0, .int .i64 0, .int .i64 0, .int .i64 0, .int .i64 0, .int .i64 0, .int .i64 0, .bool false]) (t := 23) ?hr ?_; (case hd => rfl); (case hg => rfl); (case hr => first | (go_simp; done) | (go_simp; rfl))
              intro gb142 hg w49 hbox hb
              have n0_ := Aside0.mk (blk_below (g := gb101) (o := oB0_ a0_0 a0_1 a0_2 a0_3 a0_4 a0_5 a0_6 a0_7 a0_8 a0_9) (by (with_reducible repeat first | apply bN_ | apply bD_ | apply bA_); exact BK101.out) hb)
              have n1_ := Aside0.mk (blk_below (g := gb102) (o := oB1_ a1_0 a1_1 a1_2 a1_3) (by (with_reducible repeat first | apply bN_ | apply bD_ | apply bA_); exact BK102.out) hb)
              have n2_ := Aside0.mk (blk_below (g := gb103) (o := oB2_ a2_0 a2_1 a2_2 a2_3) (by (with_reducible repeat first | apply bN_ | apply bD_ | apply bA_); exact BK103.out) hb)
              have n3_ := Aside0.mk (blk_below (g := gb118) (o := oB0_ t107 t108 t109 t110 t111 t112 t113 t114 t115 t116) (by (with_reducible repeat first | apply bN_ | apply bD_ | apply bA_); exact BK118.out) hb)
              have n4_ := Aside0.mk (blk_below (g := gb130) (o := oB0_ t119 t120 t121 t122 t123 t124 t125 t126 t127 t128) (by (with_reducible repeat first | apply bN_ | apply bD_ | apply bA_); exact BK130.out) hb)
              have n5_ := Aside0.mk (below_step (by repeat (first | (with_reducible first | exact HB.out | apply wA_ | apply wN_ | apply wD_ | refine below_set ?_ GE101.out | refine below_set ?_ GE102.out | refine below_set ?_ GE103.out | refine below_set ?_ GE118.out | refine below_set ?_ GE130.out) | exact HB.out)) hb)
              have n6_ := Aside0.mk (hbox)
              have n7_ := Aside0.mk ((by rw [hg]; exact (below_size (by repeat (first | (with_reducible first | exact HB.out | apply wA_ | apply wN_ | apply wD_ | refine below_set ?_ GE101.out | refine below_set ?_ GE102.out | refine below_set ?_ GE103.out | refine below_set ?_ GE118.out | refine below_set ?_ GE130.out) | exact HB.out))) : w.heap.size ≤ gb142))
              have n8_ := Aside0.mk ((by rw [hg]; exact (below_size (by repeat (first | (with_reducible first | exact HB.out | apply wA_ | apply wN_ | apply wD_ | refine below_set ?_ GE101.out | refine below_set ?_ GE102.out | refine below_set ?_ GE103.out | refine below_set ?_ GE118.out | refine below_set ?_ GE130.out) | exact HB.out))) : w.heap.size ≤ gb142))
              have n9_ := Aside0.mk ((by rw [hg]; exact Nat.ne_of_lt (blk_lt (g := gb101) (o := oB0_ a0_0 a0_1 a0_2 a0_3 a0_4 a0_5 a0_6 a0_7 a0_8 a0_9) (by (with_reducible repeat first | apply bN_ | apply bD_ | apply bA_); exact BK101.out)) : gb101 ≠ gb142))
              have n10_ := Aside0.mk ((by rw [hg]; exact Nat.ne_of_gt (blk_lt (g := gb101) (o := oB0_ a0_0 a0_1 a0_2 a0_3 a0_4 a0_5 a0_6 a0_7 a0_8 a0_9) (by (with_reducible repeat first | apply bN_ | apply bD_ | apply bA_); exact BK101.out)) : gb142 ≠ gb101))
              have n11_ := Aside0.mk ((by rw [hg]; exact Nat.ne_of_lt (blk_lt (g := gb102) (o := oB1_ a1_0 a1_1 a1_2 a1_3) (by (with_reducible repeat first | apply bN_ | apply bD_ | apply bA_); exact BK102.out)) : gb102 ≠ gb142))
              have n12_ := Aside0.mk ((by rw [hg]; exact Nat.ne_of_gt (blk_lt (g := gb102) (o := oB1_ a1_0 a1_1 a1_2 a1_3) (by (with_reducible repeat first | apply bN_ | apply bD_ | apply bA_); exact BK102.out)) : gb142 ≠ gb102))
              have n13_ := Aside0.mk ((by rw [hg]; exact Nat.ne_of_lt (blk_lt (g := gb103) (o := oB2_ a2_0 a2_1 a2_2 a2_3) (by (with_reducible repeat first | apply bN_ | apply bD_ | apply bA_); exact BK103.out)) : gb103 ≠ gb142))
              have n14_ := Aside0.mk ((by rw [hg]; exact Nat.ne_of_gt (blk_lt (g := gb103) (o := oB2_ a2_0 a2_1 a2_2 a2_3) (by (with_reducible repeat first | apply bN_ | apply bD_ | apply bA_); exact BK103.out)) : gb142 ≠ gb103))
              have n15_ := Aside0.mk ((by rw [hg]; exact Nat.ne_of_lt (blk_lt (g := gb118) (o := oB0_ t107 t108 t109 t110 t111 t112 t113 t114 t115 t116) (by (with_reducible repeat first | apply bN_ | apply bD_ | apply bA_); exact BK118.out)) : gb118 ≠ gb142))
              have n16_ := Aside0.mk ((by rw [hg]; exact Nat.ne_of_gt (blk_lt (g := gb118) (o := oB0_ t107 t108 t109 t110 t111 t112 t113 t114 t115 t116) (by (with_reducible repeat first | apply bN_ | apply bD_ | apply bA_); exact BK118.out)) : gb142 ≠ gb118))
              have n17_ := Aside0.mk ((by rw [hg]; exact Nat.ne_of_lt (blk_lt (g := gb130) (o := oB0_ t119 t120 t121 t122 t123 t124 t125 t126 t127 t128) (by (with_reducible repeat first | apply bN_ | apply bD_ | apply bA_); exact BK130.out)) : gb130 ≠ gb142))
              have n18_ := Aside0.mk ((by rw [hg]; exact Nat.ne_of_gt (blk_lt (g := gb130) (o := oB0_ t119 t120 t121 t122 t123 t124 t125 t126 t127 t128) (by (with_reducible repeat first | apply bN_ | apply bD_ | apply bA_); exact BK130.out)) : gb142 ≠ gb130))
              clear BK101 BK102
              clear BK103 BK118
              clear BK130 HB
              have BK101 := n0_
              have BK102 := n1_
              have BK103 := n2_
              have BK118 := n3_
              have BK130 := n4_
              have HB := n5_
              have BK142 := n6_
              have GW142 := n7_
              have GE142 := n8_
              have NB101_142 := n9_
              have NB142_101 := n10_
              have NB102_142 := n11_
              have NB142_102 := n12_
              have NB103_142 := n13_
              have NB142_103 := n14_
              have NB118_142 := n15_
              have NB142_118 := n16_
              have NB130_142 := n17_
              have NB142_130 := n18_
              clear n0_ n1_ n2_ n3_ n4_ n5_ n6_ n7_ n8_ n9_ n10_ n11_ n12_ n13_ n14_ n15_ n16_ n17_ n18_
              clear hb hbox hg
              refine hK.out _ _ ⟨(blk_cell BK101.out 0).trans rfl, (blk_cell BK101.out 1).trans rfl, (blk_cell BK101.out 2).trans rfl, (blk_cell BK101.out 3).trans rfl, (blk_cell BK101.out 4).trans rfl, (blk_cell BK101.out 5).trans rfl, (blk_cell BK101.out 6).trans rfl, (blk_cell BK101.out 7).trans rfl, (blk_cell BK101.out 8).trans rfl, (blk_cell BK101.out 9).trans rfl⟩ (fun hHeld => ?_)
              clear hK K
              refine norm_ (a' := ?_) ?_ ?_
              rotate_left
              ·
               show Act.put _ (some 16) _ = _
               simp only [Act.put, List.setIfInBounds_toArray, List.set_cons_zero, List.set_cons_succ, i64_w, i32_w]
               rfl
              refine one_ (i := 8) (N := some 67) #[true, true, true, true, true, true, true, true, true, false, false, false, true, false, false] rfl rfl (one_of HT_.out (by kernel_rfl)) (by decide) (fun K hK => ?_)
              refine goes_ Try.func21 (by kernel_rfl) rfl #[.int .i64 a0_0, .string (t105.extract 0 ((ji21) : Int).toNat)] (by rfl) rfl rfl (by (try simp only [List.map_toArray, List.map_cons, List.map_nil]); first | done | (simp only [hji21]; rfl) | rfl | (simp only [List.length_drop, List.length_take]; rfl)) ?_
              with_reducible refine (G.xTakeCap.calls a0_0 (t105.extract 0 ((ji21) : Int).toNat) t131 t132 t133 t134 t135 t136 t137 t138 t139 t140 t141 _ A24.out).mono ?_
              rintro e w50 ⟨rfl, hb⟩
              refine ⟨_, rfl, ?_⟩
              have n0_ := Aside0.mk (blk_below (g := gb101) (o := oB0_ a0_0 a0_1 a0_2 a0_3 a0_4 a0_5 a0_6 a0_7 a0_8 a0_9) (by (with_reducible repeat first | apply bN_ | apply bD_ | apply bA_); exact BK101.out) hb)
              have n1_ := Aside0.mk (blk_below (g := gb102) (o := oB1_ a1_0 a1_1 a1_2 a1_3) (by (with_reducible repeat first | apply bN_ | apply bD_ | apply bA_); exact BK102.out) hb)
              have n2_ := Aside0.mk (blk_below (g := gb103) (o := oB2_ a2_0 a2_1 a2_2 a2_3) (by (with_reducible repeat first | apply bN_ | apply bD_ | apply bA_); exact BK103.out) hb)
              have n3_ := Aside0.mk (blk_below (g := gb118) (o := oB0_ t107 t108 t109 t110 t111 t112 t113 t114 t115 t116) (by (with_reducible repeat first | apply bN_ | apply bD_ | apply bA_); exact BK118.out) hb)
              have n4_ := Aside0.mk (blk_below (g := gb130) (o := oB0_ t119 t120 t121 t122 t123 t124 t125 t126 t127 t128) (by (with_reducible repeat first | apply bN_ | apply bD_ | apply bA_); exact BK130.out) hb)
              have n5_ := Aside0.mk (blk_below (g := gb142) (o := oB0_ 0 0 0 0 0 0 0 0 0 false) (by (with_reducible repeat first | apply bN_ | apply bD_ | apply bA_); exact BK142.out) hb)
              have n6_ := Aside0.mk (below_step (by repeat (first | (with_reducible first | exact HB.out | apply wA_ | apply wN_ | apply wD_ | refine below_set ?_ GE101.out | refine below_set ?_ GE102.out | refine below_set ?_ GE103.out | refine below_set ?_ GE118.out | refine below_set ?_ GE130.out | refine below_set ?_ GE142.out) | exact HB.out)) hb)
              clear BK101 BK102
              clear BK103 BK118
              clear BK130 BK142 HB
              have BK101 := n0_
              have BK102 := n1_
              have BK103 := n2_
              have BK118 := n3_
              have BK130 := n4_
              have BK142 := n5_
              have HB := n6_
              clear n0_ n1_ n2_ n3_ n4_ n5_ n6_
              (try clear hb)
              (try clear hb2)
              (try clear hk)
              (try clear hi)
              refine hK.out _ _ ⟨(blk_cell BK101.out 0).trans rfl, (blk_cell BK101.out 1).trans rfl, (blk_cell BK101.out 2).trans rfl, (blk_cell BK101.out 3).trans rfl, (blk_cell BK101.out 4).trans rfl, (blk_cell BK101.out 5).trans rfl, (blk_cell BK101.out 6).trans rfl, (blk_cell BK101.out 7).trans rfl, (blk_cell BK101.out 8).trans rfl, (blk_cell BK101.out 9).trans rfl⟩ (fun hHeld => ?_)
              clear hK K
              refine norm_ (a' := ?_) ?_ ?_
              rotate_left
              ·
               show Act.put _ (some 67) _ = _
               simp only [Act.put, List.setIfInBounds_toArray, List.set_cons_zero, List.set_cons_succ, i64_w, i32_w]
               rfl
              refine pure_ (i := 9) (N := some 58) (v := ?_) (a' := ?_) #[true, true, true, true, true, true, true, true, true, true, false, false, true, false, false] rfl rfl (any_of HT_.out (by kernel_rfl)) (fun _ _ _ h => h) (Or.inl ⟨by rfl, ?_⟩) ?_ ?_
              rotate_left
              ·
               intro w'
               go_simp
               with_reducible rfl
              rotate_left
              ·
               simp only [Act.put, List.setIfInBounds_toArray, List.set_cons_zero, List.set_cons_succ, i64_w, i32_w]
               rfl
              refine pure_ (i := 10) (N := some 68) (v := ?_) (a' := ?_) #[true, true, true, true, true, true, true, true, true, true, true, false, true, false, false] rfl rfl (any_of HT_.out (by kernel_rfl)) (fun _ _ _ h => h) (Or.inl ⟨by rfl, ?_⟩) ?_ ?_
              rotate_left
              ·
               intro w'
               go_simp
               with_reducible rfl
              rotate_left
              ·
               simp only [Act.put, List.setIfInBounds_toArray, List.set_cons_zero, List.set_cons_succ, i64_w, i32_w]
               rfl
              refine pure_ (i := 11) (N := some 69) (v := ?_) (a' := ?_) #[true, true, true, true, true, true, true, true, true, true, true, true, true, false, false] rfl rfl (any_of HT_.out (by kernel_rfl)) (fun _ _ _ h => h) (Or.inl ⟨by rfl, ?_⟩) ?_ ?_
              rotate_left
              ·
               intro w'
               go_simp
               with_reducible rfl
              rotate_left
              ·
               simp only [Act.put, List.setIfInBounds_toArray, List.set_cons_zero, List.set_cons_succ, i64_w, i32_w]
               rfl
              exact norm_ (by simp only [putAll, Act.put, List.setIfInBounds_toArray, List.set_cons_zero, List.set_cons_succ]) (hCont (gb142) _ ⟨hHeld, (by (with_reducible repeat first | apply bN_ | apply bD_ | apply bA_); exact BK101.out), (by (with_reducible repeat first | apply bN_ | apply bD_ | apply bA_); exact BK102.out), (by (with_reducible repeat first | apply bN_ | apply bD_ | apply bA_); exact BK103.out), (by (with_reducible repeat first | apply bN_ | apply bD_ | apply bA_); exact BK118.out), (by (with_reducible repeat first | apply bN_ | apply bD_ | apply bA_); exact BK130.out), (by (with_reducible repeat first | apply bN_ | apply bD_ | apply bA_); exact BK142.out), GW142.out, GE142.out, NB101_142.out, NB142_101.out, NB102_142.out, NB142_102.out, NB103_142.out, NB142_103.out, NB118_142.out, NB142_118.out, NB130_142.out, NB142_130.out, (by repeat (first | (with_reducible first | exact HB.out | apply wA_ | apply wN_ | apply wD_ | refine below_set ?_ GE101.out | refine below_set ?_ GE102.out | refine below_set ?_ GE103.out | refine below_set ?_ GE118.out | refine below_set ?_ GE130.out | refine below_set ?_ GE142.out) | exact HB.out))⟩)
            rintro gb142 w51 ⟨hS_, h0_, h1_, h2_, h3_, h4_, h5_, h6_, h7_, h8_, h9_, h10_, h11_, h12_, h13_, h14_, h15_, h16_, h17_, h18_⟩
            have n0_ : Aside0 (w51.heap[gb101]? = some (.cells #[.int .i64 a0_0, .int .i64 a0_1, .int .i64 a0_2, .int .i64 a0_3, .int .i64 a0_4, .int .i64 a0_5, .int .i64 a0_6, .int .i64 a0_7, .int .i64 a0_8, .bool a0_9] 23 (0, 0))) := ⟨h0_⟩
            have n1_ : Aside0 (w51.heap[gb102]? = some (.cells #[.int .i64 a1_0, .string a1_1, .int .i64 a1_2, .int .i64 a1_3] 34 (0, 0))) := ⟨h1_⟩
            have n2_ : Aside0 (w51.heap[gb103]? = some (.cells #[.int .i64 a2_0, .int .i64 a2_1, .int .i64 a2_2, .int .u64 a2_3] 26 (0, 0))) := ⟨h2_⟩
            have n3_ : Aside0 (w51.heap[gb118]? = some (.cells #[.int .i64 t107, .int .i64 t108, .int .i64 t109, .int .i64 t110, .int .i64 t111, .int .i64 t112, .int .i64 t113, .int .i64 t114, .int .i64 t115, .bool t116] 23 (0, 0))) := ⟨h3_⟩
            have n4_ : Aside0 (w51.heap[gb130]? = some (.cells #[.int .i64 t119, .int .i64 t120, .int .i64 t121, .int .i64 t122, .int .i64 t123, .int .i64 t124, .int .i64 t125, .int .i64 t126, .int .i64 t127, .bool t128] 23 (0, 0))) := ⟨h4_⟩
            have n5_ : Aside0 (w51.heap[gb142]? = some (.cells #[.int .i64 0, .int .i64 0, .int .i64 0, .int .i64 0, .int .i64 0, .int .i64 0, .int .i64 0, .int .i64 0, .int .i64 0, .bool false] 23 (0, 0))) := ⟨h5_⟩
            have n6_ : Aside0 (w.heap.size ≤ gb142) := ⟨h6_⟩
            have n7_ : Aside0 (w.heap.size ≤ gb142) := ⟨h7_⟩
            have n8_ : Aside0 (gb101 ≠ gb142) := ⟨h8_⟩
            have n9_ : Aside0 (gb142 ≠ gb101) := ⟨h9_⟩
            have n10_ : Aside0 (gb102 ≠ gb142) := ⟨h10_⟩
            have n11_ : Aside0 (gb142 ≠ gb102) := ⟨h11_⟩
            have n12_ : Aside0 (gb103 ≠ gb142) := ⟨h12_⟩
            have n13_ : Aside0 (gb142 ≠ gb103) := ⟨h13_⟩
            have n14_ : Aside0 (gb118 ≠ gb142) := ⟨h14_⟩
            have n15_ : Aside0 (gb142 ≠ gb118) := ⟨h15_⟩
            have n16_ : Aside0 (gb130 ≠ gb142) := ⟨h16_⟩
            have n17_ : Aside0 (gb142 ≠ gb130) := ⟨h17_⟩
            have n18_ : Aside0 (Below w.heap.size w w51) := ⟨h18_⟩
            clear BK101 BK102
            clear BK103 BK118
            clear BK130 HB
            clear h0_ h1_ h2_ h3_ h4_ h5_ h6_ h7_ h8_ h9_ h10_ h11_ h12_ h13_ h14_ h15_ h16_ h17_ h18_
            have BK101 := n0_
            have BK102 := n1_
            have BK103 := n2_
            have BK118 := n3_
            have BK130 := n4_
            have BK142 := n5_
            have GW142 := n6_
            have GE142 := n7_
            have NB101_142 := n8_
            have NB142_101 := n9_
            have NB102_142 := n10_
            have NB142_102 := n11_
            have NB103_142 := n12_
            have NB142_103 := n13_
            have NB118_142 := n14_
            have NB142_118 := n15_
            have NB130_142 := n16_
            have NB142_130 := n17_
            have HB := n18_
            clear n0_ n1_ n2_ n3_ n4_ n5_ n6_ n7_ n8_ n9_ n10_ n11_ n12_ n13_ n14_ n15_ n16_ n17_ n18_
            have hHeld : w51.cell? ⟨gb101, 0, none⟩ = some (.int .i64 a0_0) ∧ w51.cell? ⟨gb101, 1, none⟩ = some (.int .i64 a0_1) ∧ w51.cell? ⟨gb101, 2, none⟩ = some (.int .i64 a0_2) ∧ w51.cell? ⟨gb101, 3, none⟩ = some (.int .i64 a0_3) ∧ w51.cell? ⟨gb101, 4, none⟩ = some (.int .i64 a0_4) ∧ w51.cell? ⟨gb101, 5, none⟩ = some (.int .i64 a0_5) ∧ w51.cell? ⟨gb101, 6, none⟩ = some (.int .i64 a0_6) ∧ w51.cell? ⟨gb101, 7, none⟩ = some (.int .i64 a0_7) ∧ w51.cell? ⟨gb101, 8, none⟩ = some (.int .i64 a0_8) ∧ w51.cell? ⟨gb101, 9, none⟩ = some (.bool a0_9) := hS_
            refine norm_ (a' := ?_) ?_ ?_
            rotate_left
            ·
             simp only [putAll, Act.put, List.setIfInBounds_toArray, List.set_cons_zero, List.set_cons_succ]
             rfl
            refine one_ (i := 13) (N := none) #[true, true, true, true, true, true, true, true, true, true, true, true, true, true, false] rfl rfl (one_of HT_.out (by kernel_rfl)) (by decide) (fun K hK => ?_)
            have hs52 : w51.cell? ⟨gb142, 0, none⟩ = some (.int .i64 0) := (blk_cell BK142.out 0).trans rfl
            have hfs52 := blk_frozen BK142.out 0
            have hns52_0 := NB101_142.out
            have hns52_1 := NB102_142.out
            have hns52_2 := NB103_142.out
            have hns52_3 := NB118_142.out
            have hns52_4 := NB130_142.out
            have hms52_0 := NB142_101.out
            have hms52_1 := NB142_102.out
            have hms52_2 := NB142_103.out
            have hms52_3 := NB142_118.out
            have hms52_4 := NB142_130.out
            have hs53 : w51.cell? ⟨gb142, 1, none⟩ = some (.int .i64 0) := (blk_cell BK142.out 1).trans rfl
            have hfs53 := blk_frozen BK142.out 1
            have hns53_0 := NB101_142.out
            have hns53_1 := NB102_142.out
            have hns53_2 := NB103_142.out
            have hns53_3 := NB118_142.out
            have hns53_4 := NB130_142.out
            have hms53_0 := NB142_101.out
            have hms53_1 := NB142_102.out
            have hms53_2 := NB142_103.out
            have hms53_3 := NB142_118.out
            have hms53_4 := NB142_130.out
            have hs54 : w51.cell? ⟨gb142, 2, none⟩ = some (.int .i64 0) := (blk_cell BK142.out 2).trans rfl
            have hfs54 := blk_frozen BK142.out 2
            have hns54_0 := NB101_142.out
            have hns54_1 := NB102_142.out
            have hns54_2 := NB103_142.out
            have hns54_3 := NB118_142.out
            have hns54_4 := NB130_142.out
            have hms54_0 := NB142_101.out
            have hms54_1 := NB142_102.out
            have hms54_2 := NB142_103.out
            have hms54_3 := NB142_118.out
            have hms54_4 := NB142_130.out
            have hs55 : w51.cell? ⟨gb142, 3, none⟩ = some (.int .i64 0) := (blk_cell BK142.out 3).trans rfl
            have hfs55 := blk_frozen BK142.out 3
            have hns55_0 := NB101_142.out
            have hns55_1 := NB102_142.out
            have hns55_2 := NB103_142.out
            have hns55_3 := NB118_142.out
            have hns55_4 := NB130_142.out
            have hms55_0 := NB142_101.out
            have hms55_1 := NB142_102.out
            have hms55_2 := NB142_103.out
            have hms55_3 := NB142_118.out
            have hms55_4 := NB142_130.out
            have hs56 : w51.cell? ⟨gb142, 4, none⟩ = some (.int .i64 0) := (blk_cell BK142.out 4).trans rfl
            have hfs56 := blk_frozen BK142.out 4
            have hns56_0 := NB101_142.out
            have hns56_1 := NB102_142.out
            have hns56_2 := NB103_142.out
            have hns56_3 := NB118_142.out
            have hns56_4 := NB130_142.out
            have hms56_0 := NB142_101.out
            have hms56_1 := NB142_102.out
            have hms56_2 := NB142_103.out
            have hms56_3 := NB142_118.out
            have hms56_4 := NB142_130.out
            have hs57 : w51.cell? ⟨gb142, 5, none⟩ = some (.int .i64 0) := (blk_cell BK142.out 5).trans rfl
            have hfs57 := blk_frozen BK142.out 5
            have hns57_0 := NB101_142.out
            have hns57_1 := NB102_142.out
            have hns57_2 := NB103_142.out
            have hns57_3 := NB118_142.out
            have hns57_4 := NB130_142.out
            have hms57_0 := NB142_101.out
            have hms57_1 := NB142_102.out
            have hms57_2 := NB142_103.out
            have hms57_3 := NB142_118.out
            have hms57_4 := NB142_130.out
            have hs58 : w51.cell? ⟨gb142, 6, none⟩ = some (.int .i64 0) := (blk_cell BK142.out 6).trans rfl
            have hfs58 := blk_frozen BK142.out 6
            have hns58_0 := NB101_142.out
            have hns58_1 := NB102_142.out
            have hns58_2 := NB103_142.out
            have hns58_3 := NB118_142.out
            have hns58_4 := NB130_142.out
            have hms58_0 := NB142_101.out
            have hms58_1 := NB142_102.out
            have hms58_2 := NB142_103.out
            have hms58_3 := NB142_118.out
            have hms58_4 := NB142_130.out
            have hs59 : w51.cell? ⟨gb142, 7, none⟩ = some (.int .i64 0) := (blk_cell BK142.out 7).trans rfl
            have hfs59 := blk_frozen BK142.out 7
            have hns59_0 := NB101_142.out
            have hns59_1 := NB102_142.out
            have hns59_2 := NB103_142.out
            have hns59_3 := NB118_142.out
            have hns59_4 := NB130_142.out
            have hms59_0 := NB142_101.out
            have hms59_1 := NB142_102.out
            have hms59_2 := NB142_103.out
            have hms59_3 := NB142_118.out
            have hms59_4 := NB142_130.out
            have hs60 : w51.cell? ⟨gb142, 8, none⟩ = some (.int .i64 0) := (blk_cell BK142.out 8).trans rfl
            have hfs60 := blk_frozen BK142.out 8
            have hns60_0 := NB101_142.out
            have hns60_1 := NB102_142.out
            have hns60_2 := NB103_142.out
            have hns60_3 := NB118_142.out
            have hns60_4 := NB130_142.out
            have hms60_0 := NB142_101.out
            have hms60_1 := NB142_102.out
            have hms60_2 := NB142_103.out
            have hms60_3 := NB142_118.out
            have hms60_4 := NB142_130.out
            have hs61 : w51.cell? ⟨gb142, 9, none⟩ = some (.bool false) := (blk_cell BK142.out 9).trans rfl
            have hfs61 := blk_frozen BK142.out 9
            have hns61_0 := NB101_142.out
            have hns61_1 := NB102_142.out
            have hns61_2 := NB103_142.out
            have hns61_3 := NB118_142.out
            have hns61_4 := NB130_142.out
            have hms61_0 := NB142_101.out
            have hms61_1 := NB142_102.out
            have hms61_2 := NB142_103.out
            have hms61_3 := NB142_118.out
            have hms61_4 := NB142_130.out
            refine skip_ (w1 := ?_) (by rfl) rfl ?_ ?_
            rotate_left
            ·
             go_simp
             rfl
            refine hK.out _ _ ⟨((cell_far (p := ⟨gb142, _, none⟩) NB101_142.out _).trans (((cell_far (p := ⟨gb142, _, none⟩) NB101_142.out _).trans (((cell_far (p := ⟨gb142, _, none⟩) NB101_142.out _).trans (((cell_far (p := ⟨gb142, _, none⟩) NB101_142.out _).trans (((cell_far (p := ⟨gb142, _, none⟩) NB101_142.out _).trans (((cell_far (p := ⟨gb142, _, none⟩) NB101_142.out _).trans (((cell_far (p := ⟨gb142, _, none⟩) NB101_142.out _).trans (((cell_far (p := ⟨gb142, _, none⟩) NB101_142.out _).trans (((cell_far (p := ⟨gb142, _, none⟩) NB101_142.out _).trans (((cell_far (p := ⟨gb142, _, none⟩) NB101_142.out _).trans (hHeld.1)))))))))))))))))))), ((cell_far (p := ⟨gb142, _, none⟩) NB101_142.out _).trans (((cell_far (p := ⟨gb142, _, none⟩) NB101_142.out _).trans (((cell_far (p := ⟨gb142, _, none⟩) NB101_142.out _).trans (((cell_far (p := ⟨gb142, _, none⟩) NB101_142.out _).trans (((cell_far (p := ⟨gb142, _, none⟩) NB101_142.out _).trans (((cell_far (p := ⟨gb142, _, none⟩) NB101_142.out _).trans (((cell_far (p := ⟨gb142, _, none⟩) NB101_142.out _).trans (((cell_far (p := ⟨gb142, _, none⟩) NB101_142.out _).trans (((cell_far (p := ⟨gb142, _, none⟩) NB101_142.out _).trans (((cell_far (p := ⟨gb142, _, none⟩) NB101_142.out _).trans (hHeld.2.1)))))))))))))))))))), ((cell_far (p := ⟨gb142, _, none⟩) NB101_142.out _).trans (((cell_far (p := ⟨gb142, _, none⟩) NB101_142.out _).trans (((cell_far (p := ⟨gb142, _, none⟩) NB101_142.out _).trans (((cell_far (p := ⟨gb142, _, none⟩) NB101_142.out _).trans (((cell_far (p := ⟨gb142, _, none⟩) NB101_142.out _).trans (((cell_far (p := ⟨gb142, _, none⟩) NB101_142.out _).trans (((cell_far (p := ⟨gb142, _, none⟩) NB101_142.out _).trans (((cell_far (p := ⟨gb142, _, none⟩) NB101_142.out _).trans (((cell_far (p := ⟨gb142, _, none⟩) NB101_142.out _).trans (((cell_far (p := ⟨gb142, _, none⟩) NB101_142.out _).trans (hHeld.2.2.1)))))))))))))))))))), ((cell_far (p := ⟨gb142, _, none⟩) NB101_142.out _).trans (((cell_far (p := ⟨gb142, _, none⟩) NB101_142.out _).trans (((cell_far (p := ⟨gb142, _, none⟩) NB101_142.out _).trans (((cell_far (p := ⟨gb142, _, none⟩) NB101_142.out _).trans (((cell_far (p := ⟨gb142, _, none⟩) NB101_142.out _).trans (((cell_far (p := ⟨gb142, _, none⟩) NB101_142.out _).trans (((cell_far (p := ⟨gb142, _, none⟩) NB101_142.out _).trans (((cell_far (p := ⟨gb142, _, none⟩) NB101_142.out _).trans (((cell_far (p := ⟨gb142, _, none⟩) NB101_142.out _).trans (((cell_far (p := ⟨gb142, _, none⟩) NB101_142.out _).trans (hHeld.2.2.2.1)))))))))))))))))))), ((cell_far (p := ⟨gb142, _, none⟩) NB101_142.out _).trans (((cell_far (p := ⟨gb142, _, none⟩) NB101_142.out _).trans (((cell_far (p := ⟨gb142, _, none⟩) NB101_142.out _).trans (((cell_far (p := ⟨gb142, _, none⟩) NB101_142.out _).trans (((cell_far (p := ⟨gb142, _, none⟩) NB101_142.out _).trans (((cell_far (p := ⟨gb142, _, none⟩) NB101_142.out _).trans (((cell_far (p := ⟨gb142, _, none⟩) NB101_142.out _).trans (((cell_far (p := ⟨gb142, _, none⟩) NB101_142.out _).trans (((cell_far (p := ⟨gb142, _, none⟩) NB101_142.out _).trans (((cell_far (p := ⟨gb142, _, none⟩) NB101_142.out _).trans (hHeld.2.2.2.2.1)))))))))))))))))))), ((cell_far (p := ⟨gb142, _, none⟩) NB101_142.out _).trans (((cell_far (p := ⟨gb142, _, none⟩) NB101_142.out _).trans (((cell_far (p := ⟨gb142, _, none⟩) NB101_142.out _).trans (((cell_far (p := ⟨gb142, _, none⟩) NB101_142.out _).trans (((cell_far (p := ⟨gb142, _, none⟩) NB101_142.out _).trans (((cell_far (p := ⟨gb142, _, none⟩) NB101_142.out _).trans (((cell_far (p := ⟨gb142, _, none⟩) NB101_142.out _).trans (((cell_far (p := ⟨gb142, _, none⟩) NB101_142.out _).trans (((cell_far (p := ⟨gb142, _, none⟩) NB101_142.out _).trans (((cell_far (p := ⟨gb142, _, none⟩) NB101_142.out _).trans (hHeld.2.2.2.2.2.1)))))))))))))))))))), ((cell_far (p := ⟨gb142, _, none⟩) NB101_142.out _).trans (((cell_far (p := ⟨gb142, _, none⟩) NB101_142.out _).trans (((cell_far (p := ⟨gb142, _, none⟩) NB101_142.out _).trans (((cell_far (p := ⟨gb142, _, none⟩) NB101_142.out _).trans (((cell_far (p := ⟨gb142, _, none⟩) NB101_142.out _).trans (((cell_far (p := ⟨gb142, _, none⟩) NB101_142.out _).trans (((cell_far (p := ⟨gb142, _, none⟩) NB101_142.out _).trans (((cell_far (p := ⟨gb142, _, none⟩) NB101_142.out _).trans (((cell_far (p := ⟨gb142, _, none⟩) NB101_142.out _).trans (((cell_far (p := ⟨gb142, _, none⟩) NB101_142.out _).trans (hHeld.2.2.2.2.2.2.1)))))))))))))))))))), ((cell_far (p := ⟨gb142, _, none⟩) NB101_142.out _).trans (((cell_far (p := ⟨gb142, _, none⟩) NB101_142.out _).trans (((cell_far (p := ⟨gb142, _, none⟩) NB101_142.out _).trans (((cell_far (p := ⟨gb142, _, none⟩) NB101_142.out _).trans (((cell_far (p := ⟨gb142, _, none⟩) NB101_142.out _).trans (((cell_far (p := ⟨gb142, _, none⟩) NB101_142.out _).trans (((cell_far (p := ⟨gb142, _, none⟩) NB101_142.out _).trans (((cell_far (p := ⟨gb142, _, none⟩) NB101_142.out _).trans (((cell_far (p := ⟨gb142, _, none⟩) NB101_142.out _).trans (((cell_far (p := ⟨gb142, _, none⟩) NB101_142.out _).trans (hHeld.2.2.2.2.2.2.2.1)))))))))))))))))))), ((cell_far (p := ⟨gb142, _, none⟩) NB101_142.out _).trans (((cell_far (p := ⟨gb142, _, none⟩) NB101_142.out _).trans (((cell_far (p := ⟨gb142, _, none⟩) NB101_142.out _).trans (((cell_far (p := ⟨gb142, _, none⟩) NB101_142.out _).trans (((cell_far (p := ⟨gb142, _, none⟩) NB101_142.out _).trans (((cell_far (p := ⟨gb142, _, none⟩) NB101_142.out _).trans (((cell_far (p := ⟨gb142, _, none⟩) NB101_142.out _).trans (((cell_far (p := ⟨gb142, _, none⟩) NB101_142.out _).trans (((cell_far (p := ⟨gb142, _, none⟩) NB101_142.out _).trans (((cell_far (p := ⟨gb142, _, none⟩) NB101_142.out _).trans (hHeld.2.2.2.2.2.2.2.2.1)))))))))))))))))))), ((cell_far (p := ⟨gb142, _, none⟩) NB101_142.out _).trans (((cell_far (p := ⟨gb142, _, none⟩) NB101_142.out _).trans (((cell_far (p := ⟨gb142, _, none⟩) NB101_142.out _).trans (((cell_far (p := ⟨gb142, _, none⟩) NB101_142.out _).trans (((cell_far (p := ⟨gb142, _, none⟩) NB101_142.out _).trans (((cell_far (p := ⟨gb142, _, none⟩) NB101_142.out _).trans (((cell_far (p := ⟨gb142, _, none⟩) NB101_142.out _).trans (((cell_far (p := ⟨gb142, _, none⟩) NB101_142.out _).trans (((cell_far (p := ⟨gb142, _, none⟩) NB101_142.out _).trans (((cell_far (p := ⟨gb142, _, none⟩) NB101_142.out _).trans (hHeld.2.2.2.2.2.2.2.2.2))))))))))))))))))))⟩ (fun hHeld => ?_)
            clear hK K
            refine pure_ (i := 14) (N := some 17) (v := ?_) (a' := ?_) #[true, true, true, true, true, true, true, true, true, true, true, true, true, true, true] rfl rfl (any_of HT_.out (by kernel_rfl)) (fun _ _ _ h => h) (Or.inl ⟨by rfl, ?_⟩) ?_ ?_
            rotate_left
            ·
             intro w'
             go_simp
             with_reducible rfl
            rotate_left
            ·
             simp only [Act.put, List.setIfInBounds_toArray, List.set_cons_zero, List.set_cons_succ, i64_w, i32_w]
             rfl
            refine done_ (done_of HT_.out (by kernel_rfl)) ?_
            have hnb62 := NB118_142.out
            have hnc62 := NB142_118.out
            have hcz63_0 : w51.cell? ⟨gb118, 0, none⟩ = some (.int .i64 t107) := (blk_cell BK118.out 0).trans rfl
            have hcz63_1 : w51.cell? ⟨gb118, 1, none⟩ = some (.int .i64 t108) := (blk_cell BK118.out 1).trans rfl
            have hcz63_2 : w51.cell? ⟨gb118, 2, none⟩ = some (.int .i64 t109) := (blk_cell BK118.out 2).trans rfl
            have hcz63_3 : w51.cell? ⟨gb118, 3, none⟩ = some (.int .i64 t110) := (blk_cell BK118.out 3).trans rfl
            have hcz63_4 : w51.cell? ⟨gb118, 4, none⟩ = some (.int .i64 t111) := (blk_cell BK118.out 4).trans rfl
            have hcz63_5 : w51.cell? ⟨gb118, 5, none⟩ = some (.int .i64 t112) := (blk_cell BK118.out 5).trans rfl
            have hcz63_6 : w51.cell? ⟨gb118, 6, none⟩ = some (.int .i64 t113) := (blk_cell BK118.out 6).trans rfl
            have hcz63_7 : w51.cell? ⟨gb118, 7, none⟩ = some (.int .i64 t114) := (blk_cell BK118.out 7).trans rfl
            have hcz63_8 : w51.cell? ⟨gb118, 8, none⟩ = some (.int .i64 t115) := (blk_cell BK118.out 8).trans rfl
            have hcz63_9 : w51.cell? ⟨gb118, 9, none⟩ = some (.bool t116) := (blk_cell BK118.out 9).trans rfl
            have hfz63_0 := blk_frozen BK118.out 0
            have hfz63_1 := blk_frozen BK118.out 1
            have hfz63_2 := blk_frozen BK118.out 2
            have hfz63_3 := blk_frozen BK118.out 3
            have hfz63_4 := blk_frozen BK118.out 4
            have hfz63_5 := blk_frozen BK118.out 5
            have hfz63_6 := blk_frozen BK118.out 6
            have hfz63_7 := blk_frozen BK118.out 7
            have hfz63_8 := blk_frozen BK118.out 8
            have hfz63_9 := blk_frozen BK118.out 9
            have hnb64 := NB101_142.out
            have hnc64 := NB142_101.out
            have hcz65_0 : w51.cell? ⟨gb101, 0, none⟩ = some (.int .i64 a0_0) := (blk_cell BK101.out 0).trans rfl
            have hcz65_1 : w51.cell? ⟨gb101, 1, none⟩ = some (.int .i64 a0_1) := (blk_cell BK101.out 1).trans rfl
            have hcz65_2 : w51.cell? ⟨gb101, 2, none⟩ = some (.int .i64 a0_2) := (blk_cell BK101.out 2).trans rfl
            have hcz65_3 : w51.cell? ⟨gb101, 3, none⟩ = some (.int .i64 a0_3) := (blk_cell BK101.out 3).trans rfl
            have hcz65_4 : w51.cell? ⟨gb101, 4, none⟩ = some (.int .i64 a0_4) := (blk_cell BK101.out 4).trans rfl
            have hcz65_5 : w51.cell? ⟨gb101, 5, none⟩ = some (.int .i64 a0_5) := (blk_cell BK101.out 5).trans rfl
            have hcz65_6 : w51.cell? ⟨gb101, 6, none⟩ = some (.int .i64 a0_6) := (blk_cell BK101.out 6).trans rfl
            have hcz65_7 : w51.cell? ⟨gb101, 7, none⟩ = some (.int .i64 a0_7) := (blk_cell BK101.out 7).trans rfl
            have hcz65_8 : w51.cell? ⟨gb101, 8, none⟩ = some (.int .i64 a0_8) := (blk_cell BK101.out 8).trans rfl
            have hcz65_9 : w51.cell? ⟨gb101, 9, none⟩ = some (.bool a0_9) := (blk_cell BK101.out 9).trans rfl
            have hfz65_0 := blk_frozen BK101.out 0
            have hfz65_1 := blk_frozen BK101.out 1
            have hfz65_2 := blk_frozen BK101.out 2
            have hfz65_3 := blk_frozen BK101.out 3
            have hfz65_4 := blk_frozen BK101.out 4
            have hfz65_5 := blk_frozen BK101.out 5
            have hfz65_6 := blk_frozen BK101.out 6
            have hfz65_7 := blk_frozen BK101.out 7
            have hfz65_8 := blk_frozen BK101.out 8
            have hfz65_9 := blk_frozen BK101.out 9
            try go_wp2
            go_meet
            case rel => exact ⟨_, H', ⟨by first | omega | exact Nat.le_refl _⟩, ⟨by (with_reducible repeat first | apply bN_ | apply bD_ | apply bA_); refine blk_far ?_ NB101_142.out _; (with_reducible repeat first | apply bN_ | apply bD_ | apply bA_); refine blk_far ?_ NB101_142.out _; (with_reducible repeat first | apply bN_ | apply bD_ | apply bA_); refine blk_far ?_ NB101_142.out _; (with_reducible repeat first | apply bN_ | apply bD_ | apply bA_); refine blk_far ?_ NB101_142.out _; (with_reducible repeat first | apply bN_ | apply bD_ | apply bA_); refine blk_far ?_ NB101_142.out _; (with_reducible repeat first | apply bN_ | apply bD_ | apply bA_); refine blk_far ?_ NB101_142.out _; (with_reducible repeat first | apply bN_ | apply bD_ | apply bA_); refine blk_far ?_ NB101_142.out _; (with_reducible repeat first | apply bN_ | apply bD_ | apply bA_); refine blk_far ?_ NB101_142.out _; (with_reducible repeat first | apply bN_ | apply bD_ | apply bA_); refine blk_far ?_ NB101_142.out _; (with_reducible repeat first | apply bN_ | apply bD_ | apply bA_); refine blk_far ?_ NB101_142.out _; (with_reducible repeat first | apply bN_ | apply bD_ | apply bA_); exact BK101.out⟩, ⟨by (with_reducible repeat first | apply bN_ | apply bD_ | apply bA_); refine blk_far ?_ NB102_142.out _; (with_reducible repeat first | apply bN_ | apply bD_ | apply bA_); refine blk_far ?_ NB102_142.out _; (with_reducible repeat first | apply bN_ | apply bD_ | apply bA_); refine blk_far ?_ NB102_142.out _; (with_reducible repeat first | apply bN_ | apply bD_ | apply bA_); refine blk_far ?_ NB102_142.out _; (with_reducible repeat first | apply bN_ | apply bD_ | apply bA_); refine blk_far ?_ NB102_142.out _; (with_reducible repeat first | apply bN_ | apply bD_ | apply bA_); refine blk_far ?_ NB102_142.out _; (with_reducible repeat first | apply bN_ | apply bD_ | apply bA_); refine blk_far ?_ NB102_142.out _; (with_reducible repeat first | apply bN_ | apply bD_ | apply bA_); refine blk_far ?_ NB102_142.out _; (with_reducible repeat first | apply bN_ | apply bD_ | apply bA_); refine blk_far ?_ NB102_142.out _; (with_reducible repeat first | apply bN_ | apply bD_ | apply bA_); refine blk_far ?_ NB102_142.out _; (with_reducible repeat first | apply bN_ | apply bD_ | apply bA_); exact BK102.out⟩, ⟨by (with_reducible repeat first | apply bN_ | apply bD_ | apply bA_); refine blk_far ?_ NB103_142.out _; (with_reducible repeat first | apply bN_ | apply bD_ | apply bA_); refine blk_far ?_ NB103_142.out _; (with_reducible repeat first | apply bN_ | apply bD_ | apply bA_); refine blk_far ?_ NB103_142.out _; (with_reducible repeat first | apply bN_ | apply bD_ | apply bA_); refine blk_far ?_ NB103_142.out _; (with_reducible repeat first | apply bN_ | apply bD_ | apply bA_); refine blk_far ?_ NB103_142.out _; (with_reducible repeat first | apply bN_ | apply bD_ | apply bA_); refine blk_far ?_ NB103_142.out _; (with_reducible repeat first | apply bN_ | apply bD_ | apply bA_); refine blk_far ?_ NB103_142.out _; (with_reducible repeat first | apply bN_ | apply bD_ | apply bA_); refine blk_far ?_ NB103_142.out _; (with_reducible repeat first | apply bN_ | apply bD_ | apply bA_); refine blk_far ?_ NB103_142.out _; (with_reducible repeat first | apply bN_ | apply bD_ | apply bA_); refine blk_far ?_ NB103_142.out _; (with_reducible repeat first | apply bN_ | apply bD_ | apply bA_); exact BK103.out⟩, ⟨by repeat (first | (with_reducible first | exact HB.out | apply wA_ | apply wN_ | apply wD_ | refine below_set ?_ GE101.out | refine below_set ?_ GE102.out | refine below_set ?_ GE103.out | refine below_set ?_ GE118.out | refine below_set ?_ GE130.out | refine below_set ?_ GE142.out) | exact HB.out)⟩⟩
          ·
           rw [if_neg c28] at H
           have c28b0 : (t141 == 2) = false := beq_eq_false_iff_ne.mpr c28
           have c28b1 : (t141 != 2) = true := bne_iff_ne.mpr c28
           obtain rfl := Option.some.inj H
           exact absurd hrp_ (by decide)
        ·
         rw [if_neg c26] at H
         have c26b0 : (t117 == 0) = false := beq_eq_false_iff_ne.mpr c26
         have c26b1 : (t117 != 0) = true := bne_iff_ne.mpr c26
         obtain rfl := Option.some.inj H
         exact absurd hrp_ (by decide)
      ·
       rw [if_neg c23] at H
       exact absurd H (by simp)
     ·
      rw [if_neg c22] at H
      exact absurd H (by simp)
    ·
     rw [if_neg c19] at H
     exact absurd H (by simp)
   ·
    rw [if_neg c17] at H
    have c17b0 : (t106 == 0) = false := beq_eq_false_iff_ne.mpr c17
    have c17b1 : (t106 != 0) = true := bne_iff_ne.mpr c17
    (first | rw [c17b0] | (simp only [i64_w, i32_w]; rw [c17b0]) | skip)
    have H' := Aside0.mk H
    clear H
    go_wp2
    go_meet
    case rel => exact ⟨_, H', ⟨by first | omega | exact Nat.le_refl _⟩, ⟨by (with_reducible repeat first | apply bN_ | apply bD_ | apply bA_); exact BK101.out⟩, ⟨by (with_reducible repeat first | apply bN_ | apply bD_ | apply bA_); exact BK102.out⟩, ⟨by (with_reducible repeat first | apply bN_ | apply bD_ | apply bA_); exact BK103.out⟩, ⟨by repeat (first | (with_reducible first | exact HB.out | apply wA_ | apply wN_ | apply wD_ | refine below_set ?_ GE101.out | refine below_set ?_ GE102.out | refine below_set ?_ GE103.out) | exact HB.out)⟩⟩
  case rest =>
   clear HC8
   try clear c1
   try clear c2
   try clear p2
   try clear c6
   try clear c17
   try clear c17b0
   try clear c17b1
   try clear c19
   try clear c21
   try clear c22
   try clear c23
   try clear c26
   try clear c26b0
   try clear c26b1
   try clear c28
   try clear c28b0
   try clear c28b1
   try clear c62
   try clear c64
   try clear hcz63_0
   try clear hcz63_1
   try clear hcz63_2
   try clear hcz63_3
   try clear hcz63_4
   try clear hcz63_5
   try clear hcz63_6
   try clear hcz63_7
   try clear hcz63_8
   try clear hcz63_9
   try clear hcz65_0
   try clear hcz65_1
   try clear hcz65_2
   try clear hcz65_3
   try clear hcz65_4
   try clear hcz65_5
   try clear hcz65_6
   try clear hcz65_7
   try clear hcz65_8
   try clear hcz65_9
   try clear hfz63_0
   try clear hfz63_1
   try clear hfz63_2
   try clear hfz63_3
   try clear hfz63_4
   try clear hfz63_5
   try clear hfz63_6
   try clear hfz63_7
   try clear hfz63_8
   try clear hfz63_9
   try clear hfz65_0
   try clear hfz65_1
   try clear hfz65_2
   try clear hfz65_3
   try clear hfz65_4
   try clear hfz65_5
   try clear hfz65_6
   try clear hfz65_7
   try clear hfz65_8
   try clear hfz65_9
   obtain ⟨kq, HA, HJ7, BK101, BK102, BK103, HB⟩ := hcut
   cases kq with
   | zero => exact absurd HA.out (by simp [bailiwicklaw14_RecBack.j0])
   | succ kj7 =>
    have H := HA.out
    clear HA
    simp only [bailiwicklaw14_RecBack.j0] at H
    replace H := Option.bind_eq_some_iff.mp H
    obtain ⟨⟨t143, t144⟩, A660, H⟩ := H
    replace H : (if t144 = 0 then ((G.xTakeOwner.f a1_0 t143).bind fun bt145 => (if t143.size + a3.size ≤ 9223372036854775807 then ((G.xTakeOwner.f a1_0 (t143 ++ a3)).bind fun bt151 => (if 0 ≤ (mx (wrap64 ((t143.size : Int) - 1)) 0) then (if (mx (wrap64 ((t143.size : Int) - 1)) 0) ≤ (t143.size : Int) then ((G.xTakeOwner.f a1_0 (t143.extract 0 ((mx (wrap64 ((t143.size : Int) - 1)) 0) : Int).toNat)).bind fun bt157 => (if (!(bt145.1 == a1_0) || (!(bt145.2.1.toList == a1_1.toList) || (!(bt145.2.2.1 == a1_2) || (!(bt145.2.2.2.1 == a1_3))))) = true then (some false) else (if bt145.2.2.2.2 = 0 then (if ((bt151.2.2.2.2 == 0) != (a3.toList == ([] : List UInt8))) = true then (some false) else (if bt157.2.2.2.2 = 2 then (if (t143.size : Int) > 40 then (some false) else (bailiwicklaw14_RecBack.j1 kj7 a3 true a2_0 a2_1 a2_2 a2_3)) else (some false))) else (some false)))) else (none)) else (none))) else (none))) else (bailiwicklaw14_RecBack.j1 kj7 a3 true a2_0 a2_1 a2_2 a2_3)) = some r := H
    have A66 := Aside0.mk A660
    clear A660
    have HC67 := Aside0.mk H
    clear H
    have hnb68 := NB102_101.out
    have hnc68 := NB101_102.out
    have hnb69 := NB102_103.out
    have hnc69 := NB103_102.out
    have hcz70_0 : wc.cell? ⟨gb102, 0, none⟩ = some (.int .i64 a1_0) := (blk_cell BK102.out 0).trans rfl
    have hcz70_1 : wc.cell? ⟨gb102, 1, none⟩ = some (.string a1_1) := (blk_cell BK102.out 1).trans rfl
    have hcz70_2 : wc.cell? ⟨gb102, 2, none⟩ = some (.int .i64 a1_2) := (blk_cell BK102.out 2).trans rfl
    have hcz70_3 : wc.cell? ⟨gb102, 3, none⟩ = some (.int .i64 a1_3) := (blk_cell BK102.out 3).trans rfl
    have hfz70_0 := blk_frozen BK102.out 0
    have hfz70_1 := blk_frozen BK102.out 1
    have hfz70_2 := blk_frozen BK102.out 2
    have hfz70_3 := blk_frozen BK102.out 3
    go_upto_if 99 with (first | ((with_reducible refine gate_callee (f := 11) rfl ?_); refine goesL_ (some 95) rfl rfl Try.func11 (by kernel_rfl) rfl #[.agg #[.int .i64 a1_0, .string a1_1, .int .i64 a1_2, .int .i64 a1_3]] rfl (by (try simp only [List.map_toArray, List.map_cons, List.map_nil]); first | done | rfl | (simp only [List.length_drop, List.length_take]; rfl)) ?_; (with_reducible refine (G.xPutOwner.calls a1_0 a1_1 a1_2 a1_3 t143 t144 _ A66.out).mono ?_); rintro e w71 ⟨rfl, hb⟩; refine ⟨_, rfl, ?_⟩; have n0_ := Aside0.mk (blk_below (g := gb101) (o := oB0_ a0_0 a0_1 a0_2 a0_3 a0_4 a0_5 a0_6 a0_7 a0_8 a0_9) (by (with_reducible repeat first | apply bN_ | apply bD_ | apply bA_); exact BK101.out) hb); have n1_ := Aside0.mk (blk_below (g := gb102) (o := oB1_ a1_0 a1_1 a1_2 a1_3) (by (with_reducible repeat first | apply bN_ | apply bD_ | apply bA_); exact BK102.out) hb); have n2_ := Aside0.mk (blk_below (g := gb103) (o := oB2_ a2_0 a2_1 a2_2 a2_3) (by (with_reducible repeat first | apply bN_ | apply bD_ | apply bA_); exact BK103.out) hb); have n3_ := Aside0.mk (below_step (by repeat (first | (with_reducible first | exact HB.out | apply wA_ | apply wN_ | apply wD_ | refine below_set ?_ GE101.out | refine below_set ?_ GE102.out | refine below_set ?_ GE103.out) | exact HB.out)) hb); clear BK101 BK102 BK103 HB; have BK101 := n0_; have BK102 := n1_; have BK103 := n2_; have HB := n3_; clear n0_ n1_ n2_ n3_; (try clear hb); (try clear hb2); (try clear hk); (try clear hi)))
    (try simp only [Act.put, List.setIfInBounds_toArray, List.set_cons_zero, List.set_cons_succ])
    go_cut [] (fun wc => ∃ (kq : Nat), Aside0 (bailiwicklaw14_RecBack.j1 kq a3 true a2_0 a2_1 a2_2 a2_3 = some r) ∧ Aside0 (kq ≤ kj7) ∧ Aside0 (wc.heap[gb101]? = some (.cells #[.int .i64 a0_0, .int .i64 a0_1, .int .i64 a0_2, .int .i64 a0_3, .int .i64 a0_4, .int .i64 a0_5, .int .i64 a0_6, .int .i64 a0_7, .int .i64 a0_8, .bool a0_9] 23 (0, 0))) ∧ Aside0 (wc.heap[gb102]? = some (.cells #[.int .i64 a1_0, .string a1_1, .int .i64 a1_2, .int .i64 a1_3] 34 (0, 0))) ∧ Aside0 (wc.heap[gb103]? = some (.cells #[.int .i64 a2_0, .int .i64 a2_1, .int .i64 a2_2, .int .u64 a2_3] 26 (0, 0))) ∧ Aside0 (Below w.heap.size w wc))
    case first =>
     have H := HC67.out
     clear HC67
     by_cases c72 : t144 = 0
     ·
      rw [if_pos c72] at H
      have c72b0 : (t144 == 0) = true := beq_iff_eq.mpr c72
      have c72b1 : (t144 != 0) = false := bne_eq_false_iff_eq.mpr c72
      clear c72
      (first | rw [c72b0] | (simp only [i64_w, i32_w]; rw [c72b0]) | skip)
      replace H := Option.bind_eq_some_iff.mp H
      obtain ⟨⟨t145, t146, t147, t148, t149⟩, A730, H⟩ := H
      replace H : (if t143.size + a3.size ≤ 9223372036854775807 then ((G.xTakeOwner.f a1_0 (t143 ++ a3)).bind fun bt151 => (if 0 ≤ (mx (wrap64 ((t143.size : Int) - 1)) 0) then (if (mx (wrap64 ((t143.size : Int) - 1)) 0) ≤ (t143.size : Int) then ((G.xTakeOwner.f a1_0 (t143.extract 0 ((mx (wrap64 ((t143.size : Int) - 1)) 0) : Int).toNat)).bind fun bt157 => (if (!(t145 == a1_0) || (!(t146.toList == a1_1.toList) || (!(t147 == a1_2) || (!(t148 == a1_3))))) = true then (some false) else (if t149 = 0 then (if ((bt151.2.2.2.2 == 0) != (a3.toList == ([] : List UInt8))) = true then (some false) else (if bt157.2.2.2.2 = 2 then (if (t143.size : Int) > 40 then (some false) else (bailiwicklaw14_RecBack.j1 kj7 a3 true a2_0 a2_1 a2_2 a2_3)) else (some false))) else (some false)))) else (none)) else (none))) else (none)) = some r := H
      have A73 := Aside0.mk A730
      clear A730
      by_cases c74 : t143.size + a3.size ≤ 9223372036854775807
      ·
       rw [if_pos c74] at H
       have c74b0 := eq_true c74
       have c74b1 : decide (t143.size + a3.size ≤ 9223372036854775807) = true := decide_eq_true c74
       try have c74b2 : (9223372036854775807 < t143.size + a3.size) = False := eq_false (Nat.not_lt.2 c74)
       replace H := Option.bind_eq_some_iff.mp H
       obtain ⟨⟨t151, t152, t153, t154, t155⟩, A750, H⟩ := H
       replace H : (if 0 ≤ (mx (wrap64 ((t143.size : Int) - 1)) 0) then (if (mx (wrap64 ((t143.size : Int) - 1)) 0) ≤ (t143.size : Int) then ((G.xTakeOwner.f a1_0 (t143.extract 0 ((mx (wrap64 ((t143.size : Int) - 1)) 0) : Int).toNat)).bind fun bt157 => (if (!(t145 == a1_0) || (!(t146.toList == a1_1.toList) || (!(t147 == a1_2) || (!(t148 == a1_3))))) = true then (some false) else (if t149 = 0 then (if ((t155 == 0) != (a3.toList == ([] : List UInt8))) = true then (some false) else (if bt157.2.2.2.2 = 2 then (if (t143.size : Int) > 40 then (some false) else (bailiwicklaw14_RecBack.j1 kj7 a3 true a2_0 a2_1 a2_2 a2_3)) else (some false))) else (some false)))) else (none)) else (none)) = some r := H
       have A75 := Aside0.mk A750
       clear A750
       obtain ⟨ji76, hji76⟩ : ∃ j_ : Int, (mx (wrap64 ((t143.size : Int) - 1)) 0) = j_ := ⟨_, rfl⟩
       replace H : (if 0 ≤ (ji76) then (if (ji76) ≤ (t143.size : Int) then ((G.xTakeOwner.f a1_0 (t143.extract 0 ((ji76) : Int).toNat)).bind fun bt157 => (if (!(t145 == a1_0) || (!(t146.toList == a1_1.toList) || (!(t147 == a1_2) || (!(t148 == a1_3))))) = true then (some false) else (if t149 = 0 then (if ((t155 == 0) != (a3.toList == ([] : List UInt8))) = true then (some false) else (if bt157.2.2.2.2 = 2 then (if (t143.size : Int) > 40 then (some false) else (bailiwicklaw14_RecBack.j1 kj7 a3 true a2_0 a2_1 a2_2 a2_3)) else (some false))) else (some false)))) else (none)) else (none)) = some r := by first | (rw [hji76] at H; exact H) | (simp only [hji76] at H ⊢; exact H)
       (try rw [hji76] at A73)
       (try rw [hji76] at A75)
       (try (have hji76l : 0 ≤ ji76 := by (rw [← hji76]; unfold mx; (repeat' split) <;> omega)))
       (try (have hji76m : 0 ≤ ji76 := by omega))
       have hji76_ : (if (wrap64 ((t143.size : Int) - 1)) < 0 then 0 else (wrap64 ((t143.size : Int) - 1))) = ji76 := hji76
       by_cases c77 : 0 ≤ (ji76)
       ·
        rw [if_pos c77] at H
        have c77b0 := eq_true c77
        have c77b1 : decide (0 ≤ (ji76)) = true := decide_eq_true c77
        clear c77
        by_cases c78 : (ji76) ≤ (t143.size : Int)
        ·
         rw [if_pos c78] at H
         have c78b0 := eq_true c78
         have c78b1 : decide ((ji76) ≤ (t143.size : Int)) = true := decide_eq_true c78
         clear c78
         replace H := Option.bind_eq_some_iff.mp H
         obtain ⟨⟨t157, t158, t159, t160, t161⟩, A790, H⟩ := H
         replace H : (if (!(t145 == a1_0) || (!(t146.toList == a1_1.toList) || (!(t147 == a1_2) || (!(t148 == a1_3))))) = true then (some false) else (if t149 = 0 then (if ((t155 == 0) != (a3.toList == ([] : List UInt8))) = true then (some false) else (if t161 = 2 then (if (t143.size : Int) > 40 then (some false) else (bailiwicklaw14_RecBack.j1 kj7 a3 true a2_0 a2_1 a2_2 a2_3)) else (some false))) else (some false))) = some r := H
         have A79 := Aside0.mk A790
         clear A790
         by_cases c80 : (!(t145 == a1_0) || (!(t146.toList == a1_1.toList) || (!(t147 == a1_2) || (!(t148 == a1_3))))) = true
         ·
          rw [if_pos c80] at H
          have c80b0 : (!(t145 == a1_0) || (!(t146.toList == a1_1.toList) || (!(t147 == a1_2) || (!(t148 == a1_3))))) = true := c80
          clear c80
          obtain rfl := Option.some.inj H
          exact absurd hrp_ (by decide)
         ·
          rw [if_neg c80] at H
          have c80b0 : (!(t145 == a1_0) || (!(t146.toList == a1_1.toList) || (!(t147 == a1_2) || (!(t148 == a1_3))))) = false := by simpa using c80
          clear c80
          by_cases c81 : t149 = 0
          ·
           rw [if_pos c81] at H
           have c81b0 : (t149 == 0) = true := beq_iff_eq.mpr c81
           have c81b1 : (t149 != 0) = false := bne_eq_false_iff_eq.mpr c81
           clear c81
           by_cases c82 : ((t155 == 0) != (a3.toList == ([] : List UInt8))) = true
           ·
            rw [if_pos c82] at H
            have c82b0 : ((t155 == 0) != (a3.toList == ([] : List UInt8))) = true := c82
            (try (have c82b1 : decide ((t155 == 0) = (a3.toList == ([] : List UInt8))) = false := by simpa using c82))
            (try (have c82b2 : ((t155 == 0) == (a3.toList == ([] : List UInt8))) = false := by simpa using c82))
            (try (have c82b3 : ¬ ((t155 == 0) = (a3.toList == ([] : List UInt8))) := by simpa using c82))
            clear c82
            obtain rfl := Option.some.inj H
            exact absurd hrp_ (by decide)
           ·
            rw [if_neg c82] at H
            have c82b0 : ((t155 == 0) != (a3.toList == ([] : List UInt8))) = false := by simpa using c82
            have c82e : (t155 == 0) = a3.toList.isEmpty := by revert c82; cases (t155 == 0) <;> cases a3.toList <;> simp
            (try (have c82b1 : decide ((t155 == 0) = (a3.toList == ([] : List UInt8))) = true := by simpa using c82))
            (try (have c82b2 : ((t155 == 0) == (a3.toList == ([] : List UInt8))) = true := by simpa using c82))
            clear c82
            by_cases c83 : t161 = 2
            ·
             rw [if_pos c83] at H
             have c83b0 : (t161 == 2) = true := beq_iff_eq.mpr c83
             have c83b1 : (t161 != 2) = false := bne_eq_false_iff_eq.mpr c83
             clear c83
             by_cases c84 : (t143.size : Int) > 40
             ·
              rw [if_pos c84] at H
              have c84b0 : decide (40 < (t143.size : Int)) = true := decide_eq_true c84
              have c84b1 : decide (40 < t143.size) = true := decide_eq_true (by omega)
              clear c84
              obtain rfl := Option.some.inj H
              exact absurd hrp_ (by decide)
             ·
              rw [if_neg c84] at H
              have c84b0 : decide (40 < (t143.size : Int)) = false := decide_eq_false c84
              have c84b1 : decide (40 < t143.size) = false := decide_eq_false (by omega)
              clear c84
              have H' := Aside0.mk H
              clear H
              have hnb85 := NB102_101.out
              have hnc85 := NB101_102.out
              have hnb86 := NB102_103.out
              have hnc86 := NB103_102.out
              have hcz87_0 : w71.cell? ⟨gb102, 0, none⟩ = some (.int .i64 a1_0) := (blk_cell BK102.out 0).trans rfl
              have hcz87_1 : w71.cell? ⟨gb102, 1, none⟩ = some (.string a1_1) := (blk_cell BK102.out 1).trans rfl
              have hcz87_2 : w71.cell? ⟨gb102, 2, none⟩ = some (.int .i64 a1_2) := (blk_cell BK102.out 2).trans rfl
              have hcz87_3 : w71.cell? ⟨gb102, 3, none⟩ = some (.int .i64 a1_3) := (blk_cell BK102.out 3).trans rfl
              have hfz87_0 := blk_frozen BK102.out 0
              have hfz87_1 := blk_frozen BK102.out 1
              have hfz87_2 := blk_frozen BK102.out 2
              have hfz87_3 := blk_frozen BK102.out 3
              try go_wp2_with (first | ((with_reducible refine gate_callee (f := 25) rfl ?_); refine goesL_ (some 104) rfl rfl Try.func25 (by kernel_rfl) rfl #[.int .i64 a1_0, .string t143] rfl (by (try simp only [List.map_toArray, List.map_cons, List.map_nil]); first | done | rfl | (simp only [List.length_drop, List.length_take]; rfl)) ?_; (with_reducible refine (G.xTakeOwner.calls a1_0 t143 t145 t146 t147 t148 t149 _ A73.out).mono ?_); rintro e w88 ⟨rfl, hb⟩; refine ⟨_, rfl, ?_⟩; have n0_ := Aside0.mk (blk_below (g := gb101) (o := oB0_ a0_0 a0_1 a0_2 a0_3 a0_4 a0_5 a0_6 a0_7 a0_8 a0_9) (by (with_reducible repeat first | apply bN_ | apply bD_ | apply bA_); exact BK101.out) hb); have n1_ := Aside0.mk (blk_below (g := gb102) (o := oB1_ a1_0 a1_1 a1_2 a1_3) (by (with_reducible repeat first | apply bN_ | apply bD_ | apply bA_); exact BK102.out) hb); have n2_ := Aside0.mk (blk_below (g := gb103) (o := oB2_ a2_0 a2_1 a2_2 a2_3) (by (with_reducible repeat first | apply bN_ | apply bD_ | apply bA_); exact BK103.out) hb); have n3_ := Aside0.mk (below_step (by repeat (first | (with_reducible first | exact HB.out | apply wA_ | apply wN_ | apply wD_ | refine below_set ?_ GE101.out | refine below_set ?_ GE102.out | refine below_set ?_ GE103.out) | exact HB.out)) hb); clear BK101 BK102 BK103 HB; have BK101 := n0_; have BK102 := n1_; have BK103 := n2_; have HB := n3_; clear n0_ n1_ n2_ n3_; (try clear hb); (try clear hb2); (try clear hk); (try clear hi)) | ((with_reducible refine gate_dst (N := 19) rfl ?_); (try (refine gate_guard (by rfl) ?_; dsimp only)); refine box_event ?hg (N := 19) ?hd (cs := #[.int .i64 0, .string (⟨#[]⟩ : ByteArray), .int .i64 0, .int .i64 0]) (t := 34) ?hr ?_; (case hd => rfl); (case hg => rfl); (case hr => first | (go_simp; done) | (go_simp; rfl)); intro gb150 hg w89 hbox hb; have n0_ := Aside0.mk (blk_below (g := gb101) (o := oB0_ a0_0 a0_1 a0_2 a0_3 a0_4 a0_5 a0_6 a0_7 a0_8 a0_9) (by (with_reducible repeat first | apply bN_ | apply bD_ | apply bA_); exact BK101.out) hb); have n1_ := Aside0.mk (blk_below (g := gb102) (o := oB1_ a1_0 a1_1 a1_2 a1_3) (by (with_reducible repeat first | apply bN_ | apply bD_ | apply bA_); exact BK102.out) hb); have n2_ := Aside0.mk (blk_below (g := gb103) (o := oB2_ a2_0 a2_1 a2_2 a2_3) (by (with_reducible repeat first | apply bN_ | apply bD_ | apply bA_); exact BK103.out) hb); have n3_ := Aside0.mk (below_step (by repeat (first | (with_reducible first | exact HB.out | apply wA_ | apply wN_ | apply wD_ | refine below_set ?_ GE101.out | refine below_set ?_ GE102.out | refine below_set ?_ GE103.out) | exact HB.out)) hb); have n4_ := Aside0.mk (hbox); have n5_ := Aside0.mk ((by rw [hg]; exact (below_size (by repeat (first | (with_reducible first | exact HB.out | apply wA_ | apply wN_ | apply wD_ | refine below_set ?_ GE101.out | refine below_set ?_ GE102.out | refine below_set ?_ GE103.out) | exact HB.out))) : w.heap.size ≤ gb150)); have n6_ := Aside0.mk ((by rw [hg]; exact (below_size (by repeat (first | (with_reducible first | exact HB.out | apply wA_ | apply wN_ | apply wD_ | refine below_set ?_ GE101.out | refine below_set ?_ GE102.out | refine below_set ?_ GE103.out) | exact HB.out))) : w.heap.size ≤ gb150)); have n7_ := Aside0.mk ((by rw [hg]; exact Nat.ne_of_lt (blk_lt (g := gb101) (o := oB0_ a0_0 a0_1 a0_2 a0_3 a0_4 a0_5 a0_6 a0_7 a0_8 a0_9) (by (with_reducible repeat first | apply bN_ | apply bD_ | apply bA_); exact BK101.out)) : gb101 ≠ gb150)); have n8_ := Aside0.mk ((by rw [hg]; exact Nat.ne_of_gt (blk_lt (g := gb101) (o := oB0_ a0_0 a0_1 a0_2 a0_3 a0_4 a0_5 a0_6 a0_7 a0_8 a0_9) (by (with_reducible repeat first | apply bN_ | apply bD_ | apply bA_); exact BK101.out)) : gb150 ≠ gb101)); have n9_ := Aside0.mk ((by rw [hg]; exact Nat.ne_of_lt (blk_lt (g := gb102) (o := oB1_ a1_0 a1_1 a1_2 a1_3) (by (with_reducible repeat first | apply bN_ | apply bD_ | apply bA_); exact BK102.out)) : gb102 ≠ gb150)); have n10_ := Aside0.mk ((by rw [hg]; exact Nat.ne_of_gt (blk_lt (g := gb102) (o := oB1_ a1_0 a1_1 a1_2 a1_3) (by (with_reducible repeat first | apply bN_ | apply bD_ | apply bA_); exact BK102.out)) : gb150 ≠ gb102)); have n11_ := Aside0.mk ((by rw [hg]; exact Nat.ne_of_lt (blk_lt (g := gb103) (o := oB2_ a2_0 a2_1 a2_2 a2_3) (by (with_reducible repeat first | apply bN_ | apply bD_ | apply bA_); exact BK103.out)) : gb103 ≠ gb150)); have n12_ := Aside0.mk ((by rw [hg]; exact Nat.ne_of_gt (blk_lt (g := gb103) (o := oB2_ a2_0 a2_1 a2_2 a2_3) (by (with_reducible repeat first | apply bN_ | apply bD_ | apply bA_); exact BK103.out)) : gb150 ≠ gb103)); clear BK101 BK102 BK103 HB; have BK101 := n0_; have BK102 := n1_; have BK103 := n2_; have HB := n3_; have BK150 := n4_; have GW150 := n5_; have GE150 := n6_; have NB101_150 := n7_; have NB150_101 := n8_; have NB102_150 := n9_; have NB150_102 := n10_; have NB103_150 := n11_; have NB150_103 := n12_; clear n0_ n1_ n2_ n3_ n4_ n5_ n6_ n7_ n8_ n9_ n10_ n11_ n12_; clear hb hbox hg; have hnb90 := NB150_101.out; have hnc90 := NB101_150.out; have hnb91 := NB150_102.out; have hnc91 := NB102_150.out; have hnb92 := NB150_103.out; have hnc92 := NB103_150.out; have hcz93_0 : w89.cell? ⟨gb150, 0, none⟩ = some (.int .i64 0) := (blk_cell BK150.out 0).trans rfl; have hcz93_1 : w89.cell? ⟨gb150, 1, none⟩ = some (.string (⟨#[]⟩ : ByteArray)) := (blk_cell BK150.out 1).trans rfl; have hcz93_2 : w89.cell? ⟨gb150, 2, none⟩ = some (.int .i64 0) := (blk_cell BK150.out 2).trans rfl; have hcz93_3 : w89.cell? ⟨gb150, 3, none⟩ = some (.int .i64 0) := (blk_cell BK150.out 3).trans rfl; have hfz93_0 := blk_frozen BK150.out 0; have hfz93_1 := blk_frozen BK150.out 1; have hfz93_2 := blk_frozen BK150.out 2; have hfz93_3 := blk_frozen BK150.out 3; have hcz94_0 : w89.cell? ⟨gb102, 0, none⟩ = some (.int .i64 a1_0) := (blk_cell BK102.out 0).trans rfl; have hcz94_1 : w89.cell? ⟨gb102, 1, none⟩ = some (.string a1_1) := (blk_cell BK102.out 1).trans rfl; have hcz94_2 : w89.cell? ⟨gb102, 2, none⟩ = some (.int .i64 a1_2) := (blk_cell BK102.out 2).trans rfl; have hcz94_3 : w89.cell? ⟨gb102, 3, none⟩ = some (.int .i64 a1_3) := (blk_cell BK102.out 3).trans rfl; have hfz94_0 := blk_frozen BK102.out 0; have hfz94_1 := blk_frozen BK102.out 1; have hfz94_2 := blk_frozen BK102.out 2; have hfz94_3 := blk_frozen BK102.out 3) | ((with_reducible refine gate_callee (f := 25) rfl ?_); refine goesL_ (some 113) rfl rfl Try.func25 (by kernel_rfl) rfl #[.int .i64 a1_0, .string (t143 ++ a3)] rfl (by (try simp only [List.map_toArray, List.map_cons, List.map_nil]); first | done | rfl | (simp only [List.length_drop, List.length_take]; rfl)) ?_; (with_reducible refine (G.xTakeOwner.calls a1_0 (t143 ++ a3) t151 t152 t153 t154 t155 _ A75.out).mono ?_); rintro e w95 ⟨rfl, hb⟩; refine ⟨_, rfl, ?_⟩; have n0_ := Aside0.mk (blk_below (g := gb101) (o := oB0_ a0_0 a0_1 a0_2 a0_3 a0_4 a0_5 a0_6 a0_7 a0_8 a0_9) (by (with_reducible repeat first | apply bN_ | apply bD_ | apply bA_); refine blk_far ?_ NB101_150.out _; (with_reducible repeat first | apply bN_ | apply bD_ | apply bA_); refine blk_far ?_ NB101_150.out _; (with_reducible repeat first | apply bN_ | apply bD_ | apply bA_); refine blk_far ?_ NB101_150.out _; (with_reducible repeat first | apply bN_ | apply bD_ | apply bA_); refine blk_far ?_ NB101_150.out _; (with_reducible repeat first | apply bN_ | apply bD_ | apply bA_); exact BK101.out) hb); have n1_ := Aside0.mk (blk_below (g := gb102) (o := oB1_ a1_0 a1_1 a1_2 a1_3) (by (with_reducible repeat first | apply bN_ | apply bD_ | apply bA_); refine blk_far ?_ NB102_150.out _; (with_reducible repeat first | apply bN_ | apply bD_ | apply bA_); refine blk_far ?_ NB102_150.out _; (with_reducible repeat first | apply bN_ | apply bD_ | apply bA_); refine blk_far ?_ NB102_150.out _; (with_reducible repeat first | apply bN_ | apply bD_ | apply bA_); refine blk_far ?_ NB102_150.out _; (with_reducible repeat first | apply bN_ | apply bD_ | apply bA_); exact BK102.out) hb); have n2_ := Aside0.mk (blk_below (g := gb103) (o := oB2_ a2_0 a2_1 a2_2 a2_3) (by (with_reducible repeat first | apply bN_ | apply bD_ | apply bA_); refine blk_far ?_ NB103_150.out _; (with_reducible repeat first | apply bN_ | apply bD_ | apply bA_); refine blk_far ?_ NB103_150.out _; (with_reducible repeat first | apply bN_ | apply bD_ | apply bA_); refine blk_far ?_ NB103_150.out _; (with_reducible repeat first | apply bN_ | apply bD_ | apply bA_); refine blk_far ?_ NB103_150.out _; (with_reducible repeat first | apply bN_ | apply bD_ | apply bA_); exact BK103.out) hb); have n3_ := Aside0.mk (blk_below (g := gb150) (o := oB1_ t145 t146 t147 t148) (by (with_reducible repeat first | apply bN_ | apply bD_ | apply bA_); refine blk_put (cs := #[.int .i64 t145, .string t146, .int .i64 t147, .int .i64 0]) ?_ 3 _ rfl; (with_reducible repeat first | apply bN_ | apply bD_ | apply bA_); refine blk_put (cs := #[.int .i64 t145, .string t146, .int .i64 0, .int .i64 0]) ?_ 2 _ rfl; (with_reducible repeat first | apply bN_ | apply bD_ | apply bA_); refine blk_put (cs := #[.int .i64 t145, .string (⟨#[]⟩ : ByteArray), .int .i64 0, .int .i64 0]) ?_ 1 _ rfl; (with_reducible repeat first | apply bN_ | apply bD_ | apply bA_); refine blk_put (cs := #[.int .i64 0, .string (⟨#[]⟩ : ByteArray), .int .i64 0, .int .i64 0]) ?_ 0 _ rfl; (with_reducible repeat first | apply bN_ | apply bD_ | apply bA_); exact BK150.out) hb); have n4_ := Aside0.mk (below_step (by repeat (first | (with_reducible first | exact HB.out | apply wA_ | apply wN_ | apply wD_ | refine below_set ?_ GE101.out | refine below_set ?_ GE102.out | refine below_set ?_ GE103.out | refine below_set ?_ GE150.out) | exact HB.out)) hb); clear BK101 BK102 BK103 BK150; clear HB; have BK101 := n0_; have BK102 := n1_; have BK103 := n2_; have BK150 := n3_; have HB := n4_; clear n0_ n1_ n2_ n3_ n4_; (try clear hb); (try clear hb2); (try clear hk); (try clear hi)) | ((with_reducible refine gate_dst (N := 21) rfl ?_); (try (refine gate_guard (by rfl) ?_; dsimp only)); refine box_event ?hg (N := 21) ?hd (cs := #[.int .i64 0, .string (⟨#[]⟩ : ByteArray), .int .i64 0, .int .i64 0]) (t := 34) ?hr ?_; (case hd => rfl); (case hg => rfl); (case hr => first | (go_simp; done) | (go_simp; rfl)); intro gb156 hg w96 hbox hb; have n0_ := Aside0.mk (blk_below (g := gb101) (o := oB0_ a0_0 a0_1 a0_2 a0_3 a0_4 a0_5 a0_6 a0_7 a0_8 a0_9) (by (with_reducible repeat first | apply bN_ | apply bD_ | apply bA_); exact BK101.out) hb); have n1_ := Aside0.mk (blk_below (g := gb102) (o := oB1_ a1_0 a1_1 a1_2 a1_3) (by (with_reducible repeat first | apply bN_ | apply bD_ | apply bA_); exact BK102.out) hb); have n2_ := Aside0.mk (blk_below (g := gb103) (o := oB2_ a2_0 a2_1 a2_2 a2_3) (by (with_reducible repeat first | apply bN_ | apply bD_ | apply bA_); exact BK103.out) hb); have n3_ := Aside0.mk (blk_below (g := gb150) (o := oB1_ t145 t146 t147 t148) (by (with_reducible repeat first | apply bN_ | apply bD_ | apply bA_); exact BK150.out) hb); have n4_ := Aside0.mk (below_step (by repeat (first | (with_reducible first | exact HB.out | apply wA_ | apply wN_ | apply wD_ | refine below_set ?_ GE101.out | refine below_set ?_ GE102.out | refine below_set ?_ GE103.out | refine below_set ?_ GE150.out) | exact HB.out)) hb); have n5_ := Aside0.mk (hbox); have n6_ := Aside0.mk ((by rw [hg]; exact (below_size (by repeat (first | (with_reducible first | exact HB.out | apply wA_ | apply wN_ | apply wD_ | refine below_set ?_ GE101.out | refine below_set ?_ GE102.out | refine below_set ?_ GE103.out | refine below_set ?_ GE150.out) | exact HB.out))) : w.heap.size ≤ gb156)); have n7_ := Aside0.mk ((by rw [hg]; exact (below_size (by repeat (first | (with_reducible first | exact HB.out | apply wA_ | apply wN_ | apply wD_ | refine below_set ?_ GE101.out | refine below_set ?_ GE102.out | refine below_set ?_ GE103.out | refine below_set ?_ GE150.out) | exact HB.out))) : w.heap.size ≤ gb156)); have n8_ := Aside0.mk ((by rw [hg]; exact Nat.ne_of_lt (blk_lt (g := gb101) (o := oB0_ a0_0 a0_1 a0_2 a0_3 a0_4 a0_5 a0_6 a0_7 a0_8 a0_9) (by (with_reducible repeat first | apply bN_ | apply bD_ | apply bA_); exact BK101.out)) : gb101 ≠ gb156)); have n9_ := Aside0.mk ((by rw [hg]; exact Nat.ne_of_gt (blk_lt (g := gb101) (o := oB0_ a0_0 a0_1 a0_2 a0_3 a0_4 a0_5 a0_6 a0_7 a0_8 a0_9) (by (with_reducible repeat first | apply bN_ | apply bD_ | apply bA_); exact BK101.out)) : gb156 ≠ gb101)); have n10_ := Aside0.mk ((by rw [hg]; exact Nat.ne_of_lt (blk_lt (g := gb102) (o := oB1_ a1_0 a1_1 a1_2 a1_3) (by (with_reducible repeat first | apply bN_ | apply bD_ | apply bA_); exact BK102.out)) : gb102 ≠ gb156)); have n11_ := Aside0.mk ((by rw [hg]; exact Nat.ne_of_gt (blk_lt (g := gb102) (o := oB1_ a1_0 a1_1 a1_2 a1_3) (by (with_reducible repeat first | apply bN_ | apply bD_ | apply bA_); exact BK102.out)) : gb156 ≠ gb102)); have n12_ := Aside0.mk ((by rw [hg]; exact Nat.ne_of_lt (blk_lt (g := gb103) (o := oB2_ a2_0 a2_1 a2_2 a2_3) (by (with_reducible repeat first | apply bN_ | apply bD_ | apply bA_); exact BK103.out)) : gb103 ≠ gb156)); have n13_ := Aside0.mk ((by rw [hg]; exact Nat.ne_of_gt (blk_lt (g := gb103) (o := oB2_ a2_0 a2_1 a2_2 a2_3) (by (with_reducible repeat first | apply bN_ | apply bD_ | apply bA_); exact BK103.out)) : gb156 ≠ gb103)); have n14_ := Aside0.mk ((by rw [hg]; exact Nat.ne_of_lt (blk_lt (g := gb150) (o := oB1_ t145 t146 t147 t148) (by (with_reducible repeat first | apply bN_ | apply bD_ | apply bA_); exact BK150.out)) : gb150 ≠ gb156)); have n15_ := Aside0.mk ((by rw [hg]; exact Nat.ne_of_gt (blk_lt (g := gb150) (o := oB1_ t145 t146 t147 t148) (by (with_reducible repeat first | apply bN_ | apply bD_ | apply bA_); exact BK150.out)) : gb156 ≠ gb150)); clear BK101 BK102 BK103 BK150; clear HB; have BK101 := n0_; have BK102 := n1_; have BK103 := n2_; have BK150 := n3_; have HB := n4_; have BK156 := n5_; have GW156 := n6_; have GE156 := n7_; have NB101_156 := n8_; have NB156_101 := n9_; have NB102_156 := n10_; have NB156_102 := n11_; have NB103_156 := n12_; have NB156_103 := n13_; have NB150_156 := n14_; have NB156_150 := n15_; clear n0_ n1_ n2_ n3_ n4_ n5_ n6_ n7_ n8_ n9_ n10_ n11_ n12_ n13_ n14_ n15_; clear hb hbox hg; have hnb97 := NB156_101.out; have hnc97 := NB101_156.out; have hnb98 := NB156_102.out; have hnc98 := NB102_156.out; have hnb99 := NB156_103.out; have hnc99 := NB103_156.out; have hnb100 := NB156_150.out; have hnc100 := NB150_156.out; have hcz101_0 : w96.cell? ⟨gb156, 0, none⟩ = some (.int .i64 0) := (blk_cell BK156.out 0).trans rfl; have hcz101_1 : w96.cell? ⟨gb156, 1, none⟩ = some (.string (⟨#[]⟩ : ByteArray)) := (blk_cell BK156.out 1).trans rfl; have hcz101_2 : w96.cell? ⟨gb156, 2, none⟩ = some (.int .i64 0) := (blk_cell BK156.out 2).trans rfl; have hcz101_3 : w96.cell? ⟨gb156, 3, none⟩ = some (.int .i64 0) := (blk_cell BK156.out 3).trans rfl; have hfz101_0 := blk_frozen BK156.out 0; have hfz101_1 := blk_frozen BK156.out 1; have hfz101_2 := blk_frozen BK156.out 2; have hfz101_3 := blk_frozen BK156.out 3))
              have n0_ : Aside0 (((((w96.setCell ⟨gb156, 0, none⟩ (.int .i64 t151)).setCell ⟨gb156, 1, none⟩ (.string t152)).setCell ⟨gb156, 2, none⟩ (.int .i64 t153)).setCell ⟨gb156, 3, none⟩ (.int .i64 t154)).heap[gb101]? = some (.cells #[.int .i64 a0_0, .int .i64 a0_1, .int .i64 a0_2, .int .i64 a0_3, .int .i64 a0_4, .int .i64 a0_5, .int .i64 a0_6, .int .i64 a0_7, .int .i64 a0_8, .bool a0_9] 23 (0, 0))) := ⟨by (with_reducible repeat first | apply bN_ | apply bD_ | apply bA_); refine blk_far ?_ NB101_156.out _; (with_reducible repeat first | apply bN_ | apply bD_ | apply bA_); refine blk_far ?_ NB101_156.out _; (with_reducible repeat first | apply bN_ | apply bD_ | apply bA_); refine blk_far ?_ NB101_156.out _; (with_reducible repeat first | apply bN_ | apply bD_ | apply bA_); refine blk_far ?_ NB101_156.out _; (with_reducible repeat first | apply bN_ | apply bD_ | apply bA_); exact BK101.out⟩
              have n1_ : Aside0 (((((w96.setCell ⟨gb156, 0, none⟩ (.int .i64 t151)).setCell ⟨gb156, 1, none⟩ (.string t152)).setCell ⟨gb156, 2, none⟩ (.int .i64 t153)).setCell ⟨gb156, 3, none⟩ (.int .i64 t154)).heap[gb102]? = some (.cells #[.int .i64 a1_0, .string a1_1, .int .i64 a1_2, .int .i64 a1_3] 34 (0, 0))) := ⟨by (with_reducible repeat first | apply bN_ | apply bD_ | apply bA_); refine blk_far ?_ NB102_156.out _; (with_reducible repeat first | apply bN_ | apply bD_ | apply bA_); refine blk_far ?_ NB102_156.out _; (with_reducible repeat first | apply bN_ | apply bD_ | apply bA_); refine blk_far ?_ NB102_156.out _; (with_reducible repeat first | apply bN_ | apply bD_ | apply bA_); refine blk_far ?_ NB102_156.out _; (with_reducible repeat first | apply bN_ | apply bD_ | apply bA_); exact BK102.out⟩
              have n2_ : Aside0 (((((w96.setCell ⟨gb156, 0, none⟩ (.int .i64 t151)).setCell ⟨gb156, 1, none⟩ (.string t152)).setCell ⟨gb156, 2, none⟩ (.int .i64 t153)).setCell ⟨gb156, 3, none⟩ (.int .i64 t154)).heap[gb103]? = some (.cells #[.int .i64 a2_0, .int .i64 a2_1, .int .i64 a2_2, .int .u64 a2_3] 26 (0, 0))) := ⟨by (with_reducible repeat first | apply bN_ | apply bD_ | apply bA_); refine blk_far ?_ NB103_156.out _; (with_reducible repeat first | apply bN_ | apply bD_ | apply bA_); refine blk_far ?_ NB103_156.out _; (with_reducible repeat first | apply bN_ | apply bD_ | apply bA_); refine blk_far ?_ NB103_156.out _; (with_reducible repeat first | apply bN_ | apply bD_ | apply bA_); refine blk_far ?_ NB103_156.out _; (with_reducible repeat first | apply bN_ | apply bD_ | apply bA_); exact BK103.out⟩
              have n3_ : Aside0 (((((w96.setCell ⟨gb156, 0, none⟩ (.int .i64 t151)).setCell ⟨gb156, 1, none⟩ (.string t152)).setCell ⟨gb156, 2, none⟩ (.int .i64 t153)).setCell ⟨gb156, 3, none⟩ (.int .i64 t154)).heap[gb150]? = some (.cells #[.int .i64 t145, .string t146, .int .i64 t147, .int .i64 t148] 34 (0, 0))) := ⟨by (with_reducible repeat first | apply bN_ | apply bD_ | apply bA_); refine blk_far ?_ NB150_156.out _; (with_reducible repeat first | apply bN_ | apply bD_ | apply bA_); refine blk_far ?_ NB150_156.out _; (with_reducible repeat first | apply bN_ | apply bD_ | apply bA_); refine blk_far ?_ NB150_156.out _; (with_reducible repeat first | apply bN_ | apply bD_ | apply bA_); refine blk_far ?_ NB150_156.out _; (with_reducible repeat first | apply bN_ | apply bD_ | apply bA_); exact BK150.out⟩
              have n4_ : Aside0 (((((w96.setCell ⟨gb156, 0, none⟩ (.int .i64 t151)).setCell ⟨gb156, 1, none⟩ (.string t152)).setCell ⟨gb156, 2, none⟩ (.int .i64 t153)).setCell ⟨gb156, 3, none⟩ (.int .i64 t154)).heap[gb156]? = some (.cells #[.int .i64 t151, .string t152, .int .i64 t153, .int .i64 t154] 34 (0, 0))) := ⟨by (with_reducible repeat first | apply bN_ | apply bD_ | apply bA_); refine blk_put (cs := #[.int .i64 t151, .string t152, .int .i64 t153, .int .i64 0]) ?_ 3 _ rfl; (with_reducible repeat first | apply bN_ | apply bD_ | apply bA_); refine blk_put (cs := #[.int .i64 t151, .string t152, .int .i64 0, .int .i64 0]) ?_ 2 _ rfl; (with_reducible repeat first | apply bN_ | apply bD_ | apply bA_); refine blk_put (cs := #[.int .i64 t151, .string (⟨#[]⟩ : ByteArray), .int .i64 0, .int .i64 0]) ?_ 1 _ rfl; (with_reducible repeat first | apply bN_ | apply bD_ | apply bA_); refine blk_put (cs := #[.int .i64 0, .string (⟨#[]⟩ : ByteArray), .int .i64 0, .int .i64 0]) ?_ 0 _ rfl; (with_reducible repeat first | apply bN_ | apply bD_ | apply bA_); exact BK156.out⟩
              have n5_ : Aside0 (Below w.heap.size w ((((w96.setCell ⟨gb156, 0, none⟩ (.int .i64 t151)).setCell ⟨gb156, 1, none⟩ (.string t152)).setCell ⟨gb156, 2, none⟩ (.int .i64 t153)).setCell ⟨gb156, 3, none⟩ (.int .i64 t154))) := ⟨by repeat (first | (with_reducible first | exact HB.out | apply wA_ | apply wN_ | apply wD_ | refine below_set ?_ GE101.out | refine below_set ?_ GE102.out | refine below_set ?_ GE103.out | refine below_set ?_ GE150.out | refine below_set ?_ GE156.out) | exact HB.out)⟩
              (try clear BK101)
              (try clear BK102)
              (try clear BK103)
              (try clear BK150)
              (try clear BK156)
              (try clear HB)
              generalize ((((w96.setCell ⟨gb156, 0, none⟩ (.int .i64 t151)).setCell ⟨gb156, 1, none⟩ (.string t152)).setCell ⟨gb156, 2, none⟩ (.int .i64 t153)).setCell ⟨gb156, 3, none⟩ (.int .i64 t154)) = w102 at n0_ n1_ n2_ n3_ n4_ n5_ ⊢
              have BK101 := n0_
              have BK102 := n1_
              have BK103 := n2_
              have BK150 := n3_
              have BK156 := n4_
              have HB := n5_
              clear n0_ n1_ n2_ n3_ n4_ n5_
              have n0_ := Aside0.mk (blk_drew BK101.out)
              have n1_ := Aside0.mk (blk_drew BK102.out)
              have n2_ := Aside0.mk (blk_drew BK103.out)
              have n3_ := Aside0.mk (blk_drew BK150.out)
              have n4_ := Aside0.mk (blk_drew BK156.out)
              have n5_ := Aside0.mk (below_drew1 HB.out)
              clear BK101 BK102
              clear BK103 BK150
              clear BK156 HB
              have BK101 := n0_
              have BK102 := n1_
              have BK103 := n2_
              have BK150 := n3_
              have BK156 := n4_
              have HB := n5_
              clear n0_ n1_ n2_ n3_ n4_ n5_
              refine start_ (n := 15) (S := fun w' => w'.cell? ⟨gb102, 0, none⟩ = some (.int .i64 a1_0) ∧ w'.cell? ⟨gb102, 1, none⟩ = some (.string a1_1) ∧ w'.cell? ⟨gb102, 2, none⟩ = some (.int .i64 a1_2) ∧ w'.cell? ⟨gb102, 3, none⟩ = some (.int .i64 a1_3)) (ds := []) #[false, false, false, false, false, false, false, false, false, false, false, false, false, false, false] (by kernel_rfl) rfl rfl ⟨(blk_cell BK102.out 0).trans rfl, (blk_cell BK102.out 1).trans rfl, (blk_cell BK102.out 2).trans rfl, (blk_cell BK102.out 3).trans rfl⟩ (fun hHeld => ?_); refine with_tabW bailiwicklaw14_RecBack.tab15 bailiwicklaw14_RecBack.bits15 (fun HT_ HW_ => ?_)
              generalize w102.drew = w103 at BK101 BK102 BK103 BK150 BK156 HB hHeld ⊢
              refine pure_ (i := 0) (N := some 117) (v := ?_) (a' := ?_) #[true, false, false, false, false, false, false, false, false, false, false, false, false, false, false] rfl rfl (any_of HT_.out (by kernel_rfl)) (fun _ _ _ h => h) (Or.inl ⟨by rfl, ?_⟩) ?_ ?_
              rotate_left
              ·
               intro w'
               go_simp
               with_reducible rfl
              rotate_left
              ·
               simp only [Act.put, List.setIfInBounds_toArray, List.set_cons_zero, List.set_cons_succ, i64_w, i32_w]
               rfl
              refine pure_ (i := 2) (N := some 119) (v := ?_) (a' := ?_) #[true, false, true, false, false, false, false, false, false, false, false, false, false, false, false] rfl rfl (any_of HT_.out (by kernel_rfl)) (fun _ _ _ h => h) (Or.inl ⟨by rfl, ?_⟩) ?_ ?_
              rotate_left
              ·
               intro w'
               go_simp
               with_reducible rfl
              rotate_left
              ·
               simp only [Act.put, List.setIfInBounds_toArray, List.set_cons_zero, List.set_cons_succ, i64_w, i32_w]
               rfl
              refine pure_ (i := 3) (N := some 120) (v := ?_) (a' := ?_) #[true, false, true, true, false, false, false, false, false, false, false, false, false, false, false] rfl rfl (any_of HT_.out (by kernel_rfl)) (fun _ _ _ h => h) (Or.inl ⟨by rfl, ?_⟩) ?_ ?_
              rotate_left
              ·
               intro w'
               go_simp
               with_reducible rfl
              rotate_left
              ·
               simp only [Act.put, List.setIfInBounds_toArray, List.set_cons_zero, List.set_cons_succ, i64_w, i32_w]
               rfl
              refine pure_ (i := 4) (N := some 121) (v := ?_) (a' := ?_) #[true, false, true, true, true, false, false, false, false, false, false, false, false, false, false] rfl rfl (any_of HT_.out (by kernel_rfl)) (fun _ _ _ h => h) (Or.inl ⟨by rfl, ?_⟩) ?_ ?_
              rotate_left
              ·
               intro w'
               go_simp
               with_reducible rfl
              rotate_left
              ·
               simp only [Act.put, List.setIfInBounds_toArray, List.set_cons_zero, List.set_cons_succ, i64_w, i32_w]
               rfl
              refine pure_ (i := 5) (N := some 122) (v := ?_) (a' := ?_) #[true, false, true, true, true, true, false, false, false, false, false, false, false, false, false] rfl rfl (any_of HT_.out (by kernel_rfl)) (fun _ _ _ h => h) (Or.inl ⟨by rfl, ?_⟩) ?_ ?_
              rotate_left
              ·
               intro w'
               go_simp
               with_reducible rfl
              rotate_left
              ·
               simp only [Act.put, List.setIfInBounds_toArray, List.set_cons_zero, List.set_cons_succ, i64_w, i32_w]
               rfl
              refine pure_ (i := 6) (N := some 123) (v := ?_) (a' := ?_) #[true, false, true, true, true, true, true, false, false, false, false, false, false, false, false] rfl rfl (any_of HT_.out (by kernel_rfl)) (fun _ _ _ h => h) (Or.inl ⟨by rfl, ?_⟩) ?_ ?_
              rotate_left
              ·
               intro w'
               go_simp
               with_reducible rfl
              rotate_left
              ·
               simp only [Act.put, List.setIfInBounds_toArray, List.set_cons_zero, List.set_cons_succ, i64_w, i32_w]
               rfl
              refine pure_ (i := 7) (N := some 124) (v := ?_) (a' := ?_) #[true, false, true, true, true, true, true, true, false, false, false, false, false, false, false] rfl rfl (any_of HT_.out (by kernel_rfl)) (fun _ _ _ h => h) (Or.inl ⟨by rfl, ?_⟩) ?_ ?_
              rotate_left
              ·
               intro w'
               go_simp
               with_reducible rfl
              rotate_left
              ·
               simp only [Act.put, List.setIfInBounds_toArray, List.set_cons_zero, List.set_cons_succ, i64_w, i32_w]
               rfl
              refine take_ (i := 1) (N := some 118) (v := ?_) (a' := ?_) #[true, true, true, true, true, true, true, true, false, false, false, false, false, false, false] rfl rfl (take_ofW HT_.out HW_.out (by kernel_rfl)) (fun _ _ _ h => h) (Or.inl ⟨by rfl, ?_⟩) hHeld ?_ ?_
              rotate_left
              ·
               rintro w' ⟨s0, s1, s2, s3⟩
               go_simp
               with_reducible rfl
              rotate_left
              ·
               simp only [Act.put, List.setIfInBounds_toArray, List.set_cons_zero, List.set_cons_succ, i64_w, i32_w]
               rfl
              refine join_ (σ := Nat) 2 #[true, true, true, true, true, true, true, true, true, true, true, true, true, false, false] (fun s_ => [(125, .tuple #[.agg #[.int .i64 t157, .string t158, .int .i64 t159, .int .i64 t160], .int .i64 t161]), (23, .pointer (some ⟨s_, 0, none⟩)), (116, .tuple #[.agg #[.int .i64 t157, .string t158, .int .i64 t159, .int .i64 t160], .int .i64 t161]), (126, .agg #[.int .i64 t157, .string t158, .int .i64 t159, .int .i64 t160]), (127, .int .i64 t161)]) (fun s_ w' => (w'.cell? ⟨gb102, 0, none⟩ = some (.int .i64 a1_0) ∧ w'.cell? ⟨gb102, 1, none⟩ = some (.string a1_1) ∧ w'.cell? ⟨gb102, 2, none⟩ = some (.int .i64 a1_2) ∧ w'.cell? ⟨gb102, 3, none⟩ = some (.int .i64 a1_3)) ∧ (w'.heap[gb101]? = some (.cells #[.int .i64 a0_0, .int .i64 a0_1, .int .i64 a0_2, .int .i64 a0_3, .int .i64 a0_4, .int .i64 a0_5, .int .i64 a0_6, .int .i64 a0_7, .int .i64 a0_8, .bool a0_9] 23 (0, 0))) ∧ (w'.heap[gb102]? = some (.cells #[.int .i64 a1_0, .string a1_1, .int .i64 a1_2, .int .i64 a1_3] 34 (0, 0))) ∧ (w'.heap[gb103]? = some (.cells #[.int .i64 a2_0, .int .i64 a2_1, .int .i64 a2_2, .int .u64 a2_3] 26 (0, 0))) ∧ (w'.heap[gb150]? = some (.cells #[.int .i64 t145, .string t146, .int .i64 t147, .int .i64 t148] 34 (0, 0))) ∧ (w'.heap[gb156]? = some (.cells #[.int .i64 t151, .string t152, .int .i64 t153, .int .i64 t154] 34 (0, 0))) ∧ (w'.heap[s_]? = some (.cells #[.int .i64 0, .string (⟨#[]⟩ : ByteArray), .int .i64 0, .int .i64 0] 34 (0, 0))) ∧ (w.heap.size ≤ s_) ∧ (w.heap.size ≤ s_) ∧ (gb101 ≠ s_) ∧ (s_ ≠ gb101) ∧ (gb102 ≠ s_) ∧ (s_ ≠ gb102) ∧ (gb103 ≠ s_) ∧ (s_ ≠ gb103) ∧ (gb150 ≠ s_) ∧ (s_ ≠ gb150) ∧ (gb156 ≠ s_) ∧ (s_ ≠ gb156) ∧ (Below w.heap.size w w')) ?_ ?_
              rotate_left
              ·
               intro hCont
               refine two_ (i := 8) (j := 12) (Ni := some 125) (Nj := some 23) #[true, true, true, true, true, true, true, true, true, false, false, false, false, false, false] #[true, true, true, true, true, true, true, true, false, false, false, false, true, false, false] rfl rfl rfl rfl (two_of HT_.out (by kernel_rfl)) (by decide) (by decide) (fun K hK => ?_) (fun K hK => ?_)
               ·
                skip
                refine goes_ Try.func25 (by kernel_rfl) rfl #[.int .i64 a1_0, .string (t143.extract 0 ((ji76) : Int).toNat)] (by rfl) rfl rfl (by (try simp only [List.map_toArray, List.map_cons, List.map_nil]); first | done | (simp only [hji76]; rfl) | rfl | (simp only [List.length_drop, List.length_take]; rfl)) ?_
                with_reducible refine (G.xTakeOwner.calls a1_0 (t143.extract 0 ((ji76) : Int).toNat) t157 t158 t159 t160 t161 _ A79.out).mono ?_
                rintro e w104 ⟨rfl, hb⟩
                refine ⟨_, rfl, ?_⟩
                have n0_ := Aside0.mk (blk_below (g := gb101) (o := oB0_ a0_0 a0_1 a0_2 a0_3 a0_4 a0_5 a0_6 a0_7 a0_8 a0_9) (by (with_reducible repeat first | apply bN_ | apply bD_ | apply bA_); exact BK101.out) hb)
                have n1_ := Aside0.mk (blk_below (g := gb102) (o := oB1_ a1_0 a1_1 a1_2 a1_3) (by (with_reducible repeat first | apply bN_ | apply bD_ | apply bA_); exact BK102.out) hb)
                have n2_ := Aside0.mk (blk_below (g := gb103) (o := oB2_ a2_0 a2_1 a2_2 a2_3) (by (with_reducible repeat first | apply bN_ | apply bD_ | apply bA_); exact BK103.out) hb)
                have n3_ := Aside0.mk (blk_below (g := gb150) (o := oB1_ t145 t146 t147 t148) (by (with_reducible repeat first | apply bN_ | apply bD_ | apply bA_); exact BK150.out) hb)
                have n4_ := Aside0.mk (blk_below (g := gb156) (o := oB1_ t151 t152 t153 t154) (by (with_reducible repeat first | apply bN_ | apply bD_ | apply bA_); exact BK156.out) hb)
                have n5_ := Aside0.mk (below_step (by repeat (first | (with_reducible first | exact HB.out | apply wA_ | apply wN_ | apply wD_ | refine below_set ?_ GE101.out | refine below_set ?_ GE102.out | refine below_set ?_ GE103.out | refine below_set ?_ GE150.out | refine below_set ?_ GE156.out) | exact HB.out)) hb)
                clear BK101 BK102
                clear BK103 BK150
                clear BK156 HB
                have BK101 := n0_
                have BK102 := n1_
                have BK103 := n2_
                have BK150 := n3_
                have BK156 := n4_
                have HB := n5_
                clear n0_ n1_ n2_ n3_ n4_ n5_
                (try clear hb)
                (try clear hb2)
                (try clear hk)
                (try clear hi)
                refine hK.out _ _ ⟨(blk_cell BK102.out 0).trans rfl, (blk_cell BK102.out 1).trans rfl, (blk_cell BK102.out 2).trans rfl, (blk_cell BK102.out 3).trans rfl⟩ (fun hHeld => ?_)
                clear hK K
                refine norm_ (a' := ?_) ?_ ?_
                rotate_left
                ·
                 show Act.put _ (some 125) _ = _
                 simp only [Act.put, List.setIfInBounds_toArray, List.set_cons_zero, List.set_cons_succ, i64_w, i32_w]
                 rfl
                refine pure_ (i := 9) (N := some 116) (v := ?_) (a' := ?_) #[true, true, true, true, true, true, true, true, true, true, false, false, false, false, false] rfl rfl (any_of HT_.out (by kernel_rfl)) (fun _ _ _ h => h) (Or.inl ⟨by rfl, ?_⟩) ?_ ?_
                rotate_left
                ·
                 intro w'
                 go_simp
                 with_reducible rfl
                rotate_left
                ·
                 simp only [Act.put, List.setIfInBounds_toArray, List.set_cons_zero, List.set_cons_succ, i64_w, i32_w]
                 rfl
                refine pure_ (i := 10) (N := some 126) (v := ?_) (a' := ?_) #[true, true, true, true, true, true, true, true, true, true, true, false, false, false, false] rfl rfl (any_of HT_.out (by kernel_rfl)) (fun _ _ _ h => h) (Or.inl ⟨by rfl, ?_⟩) ?_ ?_
                rotate_left
                ·
                 intro w'
                 go_simp
                 with_reducible rfl
                rotate_left
                ·
                 simp only [Act.put, List.setIfInBounds_toArray, List.set_cons_zero, List.set_cons_succ, i64_w, i32_w]
                 rfl
                refine pure_ (i := 11) (N := some 127) (v := ?_) (a' := ?_) #[true, true, true, true, true, true, true, true, true, true, true, true, false, false, false] rfl rfl (any_of HT_.out (by kernel_rfl)) (fun _ _ _ h => h) (Or.inl ⟨by rfl, ?_⟩) ?_ ?_
                rotate_left
                ·
                 intro w'
                 go_simp
                 with_reducible rfl
                rotate_left
                ·
                 simp only [Act.put, List.setIfInBounds_toArray, List.set_cons_zero, List.set_cons_succ, i64_w, i32_w]
                 rfl
                refine one_ (i := 12) (N := some 23) #[true, true, true, true, true, true, true, true, true, true, true, true, true, false, false] rfl rfl (one_of HT_.out (by kernel_rfl)) (by decide) (fun K hK => ?_)
                refine box_step ?hg (N := 23) ?hd (cs := #[.int .i64 0, .string (⟨#[]⟩ : ByteArray), .int .i64 0, .int .i64 0]) (t := 34) ?hr ?_; (case hd => rfl); (case hg => rfl); (case hr => first | (go_simp; done) | (go_simp; rfl))
                intro gb162 hg w105 hbox hb
                have n0_ := Aside0.mk (blk_below (g := gb101) (o := oB0_ a0_0 a0_1 a0_2 a0_3 a0_4 a0_5 a0_6 a0_7 a0_8 a0_9) (by (with_reducible repeat first | apply bN_ | apply bD_ | apply bA_); exact BK101.out) hb)
                have n1_ := Aside0.mk (blk_below (g := gb102) (o := oB1_ a1_0 a1_1 a1_2 a1_3) (by (with_reducible repeat first | apply bN_ | apply bD_ | apply bA_); exact BK102.out) hb)
                have n2_ := Aside0.mk (blk_below (g := gb103) (o := oB2_ a2_0 a2_1 a2_2 a2_3) (by (with_reducible repeat first | apply bN_ | apply bD_ | apply bA_); exact BK103.out) hb)
                have n3_ := Aside0.mk (blk_below (g := gb150) (o := oB1_ t145 t146 t147 t148) (by (with_reducible repeat first | apply bN_ | apply bD_ | apply bA_); exact BK150.out) hb)
                have n4_ := Aside0.mk (blk_below (g := gb156) (o := oB1_ t151 t152 t153 t154) (by (with_reducible repeat first | apply bN_ | apply bD_ | apply bA_); exact BK156.out) hb)
                have n5_ := Aside0.mk (below_step (by repeat (first | (with_reducible first | exact HB.out | apply wA_ | apply wN_ | apply wD_ | refine below_set ?_ GE101.out | refine below_set ?_ GE102.out | refine below_set ?_ GE103.out | refine below_set ?_ GE150.out | refine below_set ?_ GE156.out) | exact HB.out)) hb)
                have n6_ := Aside0.mk (hbox)
                have n7_ := Aside0.mk ((by rw [hg]; exact (below_size (by repeat (first | (with_reducible first | exact HB.out | apply wA_ | apply wN_ | apply wD_ | refine below_set ?_ GE101.out | refine below_set ?_ GE102.out | refine below_set ?_ GE103.out | refine below_set ?_ GE150.out | refine below_set ?_ GE156.out) | exact HB.out))) : w.heap.size ≤ gb162))
                have n8_ := Aside0.mk ((by rw [hg]; exact (below_size (by repeat (first | (with_reducible first | exact HB.out | apply wA_ | apply wN_ | apply wD_ | refine below_set ?_ GE101.out | refine below_set ?_ GE102.out | refine below_set ?_ GE103.out | refine below_set ?_ GE150.out | refine below_set ?_ GE156.out) | exact HB.out))) : w.heap.size ≤ gb162))
                have n9_ := Aside0.mk ((by rw [hg]; exact Nat.ne_of_lt (blk_lt (g := gb101) (o := oB0_ a0_0 a0_1 a0_2 a0_3 a0_4 a0_5 a0_6 a0_7 a0_8 a0_9) (by (with_reducible repeat first | apply bN_ | apply bD_ | apply bA_); exact BK101.out)) : gb101 ≠ gb162))
                have n10_ := Aside0.mk ((by rw [hg]; exact Nat.ne_of_gt (blk_lt (g := gb101) (o := oB0_ a0_0 a0_1 a0_2 a0_3 a0_4 a0_5 a0_6 a0_7 a0_8 a0_9) (by (with_reducible repeat first | apply bN_ | apply bD_ | apply bA_); exact BK101.out)) : gb162 ≠ gb101))
                have n11_ := Aside0.mk ((by rw [hg]; exact Nat.ne_of_lt (blk_lt (g := gb102) (o := oB1_ a1_0 a1_1 a1_2 a1_3) (by (with_reducible repeat first | apply bN_ | apply bD_ | apply bA_); exact BK102.out)) : gb102 ≠ gb162))
                have n12_ := Aside0.mk ((by rw [hg]; exact Nat.ne_of_gt (blk_lt (g := gb102) (o := oB1_ a1_0 a1_1 a1_2 a1_3) (by (with_reducible repeat first | apply bN_ | apply bD_ | apply bA_); exact BK102.out)) : gb162 ≠ gb102))
                have n13_ := Aside0.mk ((by rw [hg]; exact Nat.ne_of_lt (blk_lt (g := gb103) (o := oB2_ a2_0 a2_1 a2_2 a2_3) (by (with_reducible repeat first | apply bN_ | apply bD_ | apply bA_); exact BK103.out)) : gb103 ≠ gb162))
                have n14_ := Aside0.mk ((by rw [hg]; exact Nat.ne_of_gt (blk_lt (g := gb103) (o := oB2_ a2_0 a2_1 a2_2 a2_3) (by (with_reducible repeat first | apply bN_ | apply bD_ | apply bA_); exact BK103.out)) : gb162 ≠ gb103))
                have n15_ := Aside0.mk ((by rw [hg]; exact Nat.ne_of_lt (blk_lt (g := gb150) (o := oB1_ t145 t146 t147 t148) (by (with_reducible repeat first | apply bN_ | apply bD_ | apply bA_); exact BK150.out)) : gb150 ≠ gb162))
                have n16_ := Aside0.mk ((by rw [hg]; exact Nat.ne_of_gt (blk_lt (g := gb150) (o := oB1_ t145 t146 t147 t148) (by (with_reducible repeat first | apply bN_ | apply bD_ | apply bA_); exact BK150.out)) : gb162 ≠ gb150))
                have n17_ := Aside0.mk ((by rw [hg]; exact Nat.ne_of_lt (blk_lt (g := gb156) (o := oB1_ t151 t152 t153 t154) (by (with_reducible repeat first | apply bN_ | apply bD_ | apply bA_); exact BK156.out)) : gb156 ≠ gb162))
                have n18_ := Aside0.mk ((by rw [hg]; exact Nat.ne_of_gt (blk_lt (g := gb156) (o := oB1_ t151 t152 t153 t154) (by (with_reducible repeat first | apply bN_ | apply bD_ | apply bA_); exact BK156.out)) : gb162 ≠ gb156))
                clear BK101 BK102
                clear BK103 BK150
                clear BK156 HB
                have BK101 := n0_
                have BK102 := n1_
                have BK103 := n2_
                have BK150 := n3_
                have BK156 := n4_
                have HB := n5_
                have BK162 := n6_
                have GW162 := n7_
                have GE162 := n8_
                have NB101_162 := n9_
                have NB162_101 := n10_
                have NB102_162 := n11_
                have NB162_102 := n12_
                have NB103_162 := n13_
                have NB162_103 := n14_
                have NB150_162 := n15_
                have NB162_150 := n16_
                have NB156_162 := n17_
                have NB162_156 := n18_
                clear n0_ n1_ n2_ n3_ n4_ n5_ n6_ n7_ n8_ n9_ n10_ n11_ n12_ n13_ n14_ n15_ n16_ n17_ n18_
                clear hb hbox hg
                refine hK.out _ _ ⟨(blk_cell BK102.out 0).trans rfl, (blk_cell BK102.out 1).trans rfl, (blk_cell BK102.out 2).trans rfl, (blk_cell BK102.out 3).trans rfl⟩ (fun hHeld => ?_)
                clear hK K
                refine norm_ (a' := ?_) ?_ ?_
                rotate_left
                ·
                 show Act.put _ (some 23) _ = _
                 simp only [Act.put, List.setIfInBounds_toArray, List.set_cons_zero, List.set_cons_succ, i64_w, i32_w]
                 rfl
                exact norm_ (by simp only [putAll, Act.put, List.setIfInBounds_toArray, List.set_cons_zero, List.set_cons_succ]) (hCont (gb162) _ ⟨hHeld, (by (with_reducible repeat first | apply bN_ | apply bD_ | apply bA_); exact BK101.out), (by (with_reducible repeat first | apply bN_ | apply bD_ | apply bA_); exact BK102.out), (by (with_reducible repeat first | apply bN_ | apply bD_ | apply bA_); exact BK103.out), (by (with_reducible repeat first | apply bN_ | apply bD_ | apply bA_); exact BK150.out), (by (with_reducible repeat first | apply bN_ | apply bD_ | apply bA_); exact BK156.out), (by (with_reducible repeat first | apply bN_ | apply bD_ | apply bA_); exact BK162.out), GW162.out, GE162.out, NB101_162.out, NB162_101.out, NB102_162.out, NB162_102.out, NB103_162.out, NB162_103.out, NB150_162.out, NB162_150.out, NB156_162.out, NB162_156.out, (by repeat (first | (with_reducible first | exact HB.out | apply wA_ | apply wN_ | apply wD_ | refine below_set ?_ GE101.out | refine below_set ?_ GE102.out | refine below_set ?_ GE103.out | refine below_set ?_ GE150.out | refine below_set ?_ GE156.out | refine below_set ?_ GE162.out) | exact HB.out))⟩)
               ·
                skip
                refine box_step ?hg (N := 23) ?hd (cs := #[.int .i64 0, .string (⟨#[]⟩ : ByteArray), .int .i64 0, .int .i64 0]) (t := 34) ?hr ?_; (case hd => rfl); (case hg => rfl); (case hr => first | (go_simp; done) | (go_simp; rfl))
                intro gb162 hg w104 hbox hb
                have n0_ := Aside0.mk (blk_below (g := gb101) (o := oB0_ a0_0 a0_1 a0_2 a0_3 a0_4 a0_5 a0_6 a0_7 a0_8 a0_9) (by (with_reducible repeat first | apply bN_ | apply bD_ | apply bA_); exact BK101.out) hb)
                have n1_ := Aside0.mk (blk_below (g := gb102) (o := oB1_ a1_0 a1_1 a1_2 a1_3) (by (with_reducible repeat first | apply bN_ | apply bD_ | apply bA_); exact BK102.out) hb)
                have n2_ := Aside0.mk (blk_below (g := gb103) (o := oB2_ a2_0 a2_1 a2_2 a2_3) (by (with_reducible repeat first | apply bN_ | apply bD_ | apply bA_); exact BK103.out) hb)
                have n3_ := Aside0.mk (blk_below (g := gb150) (o := oB1_ t145 t146 t147 t148) (by (with_reducible repeat first | apply bN_ | apply bD_ | apply bA_); exact BK150.out) hb)
                have n4_ := Aside0.mk (blk_below (g := gb156) (o := oB1_ t151 t152 t153 t154) (by (with_reducible repeat first | apply bN_ | apply bD_ | apply bA_); exact BK156.out) hb)
                have n5_ := Aside0.mk (below_step (by repeat (first | (with_reducible first | exact HB.out | apply wA_ | apply wN_ | apply wD_ | refine below_set ?_ GE101.out | refine below_set ?_ GE102.out | refine below_set ?_ GE103.out | refine below_set ?_ GE150.out | refine below_set ?_ GE156.out) | exact HB.out)) hb)
                have n6_ := Aside0.mk (hbox)
                have n7_ := Aside0.mk ((by rw [hg]; exact (below_size (by repeat (first | (with_reducible first | exact HB.out | apply wA_ | apply wN_ | apply wD_ | refine below_set ?_ GE101.out | refine below_set ?_ GE102.out | refine below_set ?_ GE103.out | refine below_set ?_ GE150.out | refine below_set ?_ GE156.out) | exact HB.out))) : w.heap.size ≤ gb162))
                have n8_ := Aside0.mk ((by rw [hg]; exact (below_size (by repeat (first | (with_reducible first | exact HB.out | apply wA_ | apply wN_ | apply wD_ | refine below_set ?_ GE101.out | refine below_set ?_ GE102.out | refine below_set ?_ GE103.out | refine below_set ?_ GE150.out | refine below_set ?_ GE156.out) | exact HB.out))) : w.heap.size ≤ gb162))
                have n9_ := Aside0.mk ((by rw [hg]; exact Nat.ne_of_lt (blk_lt (g := gb101) (o := oB0_ a0_0 a0_1 a0_2 a0_3 a0_4 a0_5 a0_6 a0_7 a0_8 a0_9) (by (with_reducible repeat first | apply bN_ | apply bD_ | apply bA_); exact BK101.out)) : gb101 ≠ gb162))
                have n10_ := Aside0.mk ((by rw [hg]; exact Nat.ne_of_gt (blk_lt (g := gb101) (o := oB0_ a0_0 a0_1 a0_2 a0_3 a0_4 a0_5 a0_6 a0_7 a0_8 a0_9) (by (with_reducible repeat first | apply bN_ | apply bD_ | apply bA_); exact BK101.out)) : gb162 ≠ gb101))
                have n11_ := Aside0.mk ((by rw [hg]; exact Nat.ne_of_lt (blk_lt (g := gb102) (o := oB1_ a1_0 a1_1 a1_2 a1_3) (by (with_reducible repeat first | apply bN_ | apply bD_ | apply bA_); exact BK102.out)) : gb102 ≠ gb162))
                have n12_ := Aside0.mk ((by rw [hg]; exact Nat.ne_of_gt (blk_lt (g := gb102) (o := oB1_ a1_0 a1_1 a1_2 a1_3) (by (with_reducible repeat first | apply bN_ | apply bD_ | apply bA_); exact BK102.out)) : gb162 ≠ gb102))
                have n13_ := Aside0.mk ((by rw [hg]; exact Nat.ne_of_lt (blk_lt (g := gb103) (o := oB2_ a2_0 a2_1 a2_2 a2_3) (by (with_reducible repeat first | apply bN_ | apply bD_ | apply bA_); exact BK103.out)) : gb103 ≠ gb162))
                have n14_ := Aside0.mk ((by rw [hg]; exact Nat.ne_of_gt (blk_lt (g := gb103) (o := oB2_ a2_0 a2_1 a2_2 a2_3) (by (with_reducible repeat first | apply bN_ | apply bD_ | apply bA_); exact BK103.out)) : gb162 ≠ gb103))
                have n15_ := Aside0.mk ((by rw [hg]; exact Nat.ne_of_lt (blk_lt (g := gb150) (o := oB1_ t145 t146 t147 t148) (by (with_reducible repeat first | apply bN_ | apply bD_ | apply bA_); exact BK150.out)) : gb150 ≠ gb162))
                have n16_ := Aside0.mk ((by rw [hg]; exact Nat.ne_of_gt (blk_lt (g := gb150) (o := oB1_ t145 t146 t147 t148) (by (with_reducible repeat first | apply bN_ | apply bD_ | apply bA_); exact BK150.out)) : gb162 ≠ gb150))
                have n17_ := Aside0.mk ((by rw [hg]; exact Nat.ne_of_lt (blk_lt (g := gb156) (o := oB1_ t151 t152 t153 t154) (by (with_reducible repeat first | apply bN_ | apply bD_ | apply bA_); exact BK156.out)) : gb156 ≠ gb162))
                have n18_ := Aside0.mk ((by rw [hg]; exact Nat.ne_of_gt (blk_lt (g := gb156) (o := oB1_ t151 t152 t153 t154) (by (with_reducible repeat first | apply bN_ | apply bD_ | apply bA_); exact BK156.out)) : gb162 ≠ gb156))
                clear BK101 BK102
                clear BK103 BK150
                clear BK156 HB
                have BK101 := n0_
                have BK102 := n1_
                have BK103 := n2_
                have BK150 := n3_
                have BK156 := n4_
                have HB := n5_
                have BK162 := n6_
                have GW162 := n7_
                have GE162 := n8_
                have NB101_162 := n9_
                have NB162_101 := n10_
                have NB102_162 := n11_
                have NB162_102 := n12_
                have NB103_162 := n13_
                have NB162_103 := n14_
                have NB150_162 := n15_
                have NB162_150 := n16_
                have NB156_162 := n17_
                have NB162_156 := n18_
                clear n0_ n1_ n2_ n3_ n4_ n5_ n6_ n7_ n8_ n9_ n10_ n11_ n12_ n13_ n14_ n15_ n16_ n17_ n18_
                clear hb hbox hg
                refine hK.out _ _ ⟨(blk_cell BK102.out 0).trans rfl, (blk_cell BK102.out 1).trans rfl, (blk_cell BK102.out 2).trans rfl, (blk_cell BK102.out 3).trans rfl⟩ (fun hHeld => ?_)
                clear hK K
                refine norm_ (a' := ?_) ?_ ?_
                rotate_left
                ·
                 show Act.put _ (some 23) _ = _
                 simp only [Act.put, List.setIfInBounds_toArray, List.set_cons_zero, List.set_cons_succ, i64_w, i32_w]
                 rfl
                refine one_ (i := 8) (N := some 125) #[true, true, true, true, true, true, true, true, true, false, false, false, true, false, false] rfl rfl (one_of HT_.out (by kernel_rfl)) (by decide) (fun K hK => ?_)
                refine goes_ Try.func25 (by kernel_rfl) rfl #[.int .i64 a1_0, .string (t143.extract 0 ((ji76) : Int).toNat)] (by rfl) rfl rfl (by (try simp only [List.map_toArray, List.map_cons, List.map_nil]); first | done | (simp only [hji76]; rfl) | rfl | (simp only [List.length_drop, List.length_take]; rfl)) ?_
                with_reducible refine (G.xTakeOwner.calls a1_0 (t143.extract 0 ((ji76) : Int).toNat) t157 t158 t159 t160 t161 _ A79.out).mono ?_
                rintro e w105 ⟨rfl, hb⟩
                refine ⟨_, rfl, ?_⟩
                have n0_ := Aside0.mk (blk_below (g := gb101) (o := oB0_ a0_0 a0_1 a0_2 a0_3 a0_4 a0_5 a0_6 a0_7 a0_8 a0_9) (by (with_reducible repeat first | apply bN_ | apply bD_ | apply bA_); exact BK101.out) hb)
                have n1_ := Aside0.mk (blk_below (g := gb102) (o := oB1_ a1_0 a1_1 a1_2 a1_3) (by (with_reducible repeat first | apply bN_ | apply bD_ | apply bA_); exact BK102.out) hb)
                have n2_ := Aside0.mk (blk_below (g := gb103) (o := oB2_ a2_0 a2_1 a2_2 a2_3) (by (with_reducible repeat first | apply bN_ | apply bD_ | apply bA_); exact BK103.out) hb)
                have n3_ := Aside0.mk (blk_below (g := gb150) (o := oB1_ t145 t146 t147 t148) (by (with_reducible repeat first | apply bN_ | apply bD_ | apply bA_); exact BK150.out) hb)
                have n4_ := Aside0.mk (blk_below (g := gb156) (o := oB1_ t151 t152 t153 t154) (by (with_reducible repeat first | apply bN_ | apply bD_ | apply bA_); exact BK156.out) hb)
                have n5_ := Aside0.mk (blk_below (g := gb162) (o := .cells #[.int .i64 0, .string (⟨#[]⟩ : ByteArray), .int .i64 0, .int .i64 0] 34 (0, 0)) (by (with_reducible repeat first | apply bN_ | apply bD_ | apply bA_); exact BK162.out) hb)
                have n6_ := Aside0.mk (below_step (by repeat (first | (with_reducible first | exact HB.out | apply wA_ | apply wN_ | apply wD_ | refine below_set ?_ GE101.out | refine below_set ?_ GE102.out | refine below_set ?_ GE103.out | refine below_set ?_ GE150.out | refine below_set ?_ GE156.out | refine below_set ?_ GE162.out) | exact HB.out)) hb)
                clear BK101 BK102
                clear BK103 BK150
                clear BK156 BK162 HB
                have BK101 := n0_
                have BK102 := n1_
                have BK103 := n2_
                have BK150 := n3_
                have BK156 := n4_
                have BK162 := n5_
                have HB := n6_
                clear n0_ n1_ n2_ n3_ n4_ n5_ n6_
                (try clear hb)
                (try clear hb2)
                (try clear hk)
                (try clear hi)
                refine hK.out _ _ ⟨(blk_cell BK102.out 0).trans rfl, (blk_cell BK102.out 1).trans rfl, (blk_cell BK102.out 2).trans rfl, (blk_cell BK102.out 3).trans rfl⟩ (fun hHeld => ?_)
                clear hK K
                refine norm_ (a' := ?_) ?_ ?_
                rotate_left
                ·
                 show Act.put _ (some 125) _ = _
                 simp only [Act.put, List.setIfInBounds_toArray, List.set_cons_zero, List.set_cons_succ, i64_w, i32_w]
                 rfl
                refine pure_ (i := 9) (N := some 116) (v := ?_) (a' := ?_) #[true, true, true, true, true, true, true, true, true, true, false, false, true, false, false] rfl rfl (any_of HT_.out (by kernel_rfl)) (fun _ _ _ h => h) (Or.inl ⟨by rfl, ?_⟩) ?_ ?_
                rotate_left
                ·
                 intro w'
                 go_simp
                 with_reducible rfl
                rotate_left
                ·
                 simp only [Act.put, List.setIfInBounds_toArray, List.set_cons_zero, List.set_cons_succ, i64_w, i32_w]
                 rfl
                refine pure_ (i := 10) (N := some 126) (v := ?_) (a' := ?_) #[true, true, true, true, true, true, true, true, true, true, true, false, true, false, false] rfl rfl (any_of HT_.out (by kernel_rfl)) (fun _ _ _ h => h) (Or.inl ⟨by rfl, ?_⟩) ?_ ?_
                rotate_left
                ·
                 intro w'
                 go_simp
                 with_reducible rfl
                rotate_left
                ·
                 simp only [Act.put, List.setIfInBounds_toArray, List.set_cons_zero, List.set_cons_succ, i64_w, i32_w]
                 rfl
                refine pure_ (i := 11) (N := some 127) (v := ?_) (a' := ?_) #[true, true, true, true, true, true, true, true, true, true, true, true, true, false, false] rfl rfl (any_of HT_.out (by kernel_rfl)) (fun _ _ _ h => h) (Or.inl ⟨by rfl, ?_⟩) ?_ ?_
                rotate_left
                ·
                 intro w'
                 go_simp
                 with_reducible rfl
                rotate_left
                ·
                 simp only [Act.put, List.setIfInBounds_toArray, List.set_cons_zero, List.set_cons_succ, i64_w, i32_w]
                 rfl
                exact norm_ (by simp only [putAll, Act.put, List.setIfInBounds_toArray, List.set_cons_zero, List.set_cons_succ]) (hCont (gb162) _ ⟨hHeld, (by (with_reducible repeat first | apply bN_ | apply bD_ | apply bA_); exact BK101.out), (by (with_reducible repeat first | apply bN_ | apply bD_ | apply bA_); exact BK102.out), (by (with_reducible repeat first | apply bN_ | apply bD_ | apply bA_); exact BK103.out), (by (with_reducible repeat first | apply bN_ | apply bD_ | apply bA_); exact BK150.out), (by (with_reducible repeat first | apply bN_ | apply bD_ | apply bA_); exact BK156.out), (by (with_reducible repeat first | apply bN_ | apply bD_ | apply bA_); exact BK162.out), GW162.out, GE162.out, NB101_162.out, NB162_101.out, NB102_162.out, NB162_102.out, NB103_162.out, NB162_103.out, NB150_162.out, NB162_150.out, NB156_162.out, NB162_156.out, (by repeat (first | (with_reducible first | exact HB.out | apply wA_ | apply wN_ | apply wD_ | refine below_set ?_ GE101.out | refine below_set ?_ GE102.out | refine below_set ?_ GE103.out | refine below_set ?_ GE150.out | refine below_set ?_ GE156.out | refine below_set ?_ GE162.out) | exact HB.out))⟩)
              rintro gb162 w106 ⟨hS_, h0_, h1_, h2_, h3_, h4_, h5_, h6_, h7_, h8_, h9_, h10_, h11_, h12_, h13_, h14_, h15_, h16_, h17_, h18_⟩
              have n0_ : Aside0 (w106.heap[gb101]? = some (.cells #[.int .i64 a0_0, .int .i64 a0_1, .int .i64 a0_2, .int .i64 a0_3, .int .i64 a0_4, .int .i64 a0_5, .int .i64 a0_6, .int .i64 a0_7, .int .i64 a0_8, .bool a0_9] 23 (0, 0))) := ⟨h0_⟩
              have n1_ : Aside0 (w106.heap[gb102]? = some (.cells #[.int .i64 a1_0, .string a1_1, .int .i64 a1_2, .int .i64 a1_3] 34 (0, 0))) := ⟨h1_⟩
              have n2_ : Aside0 (w106.heap[gb103]? = some (.cells #[.int .i64 a2_0, .int .i64 a2_1, .int .i64 a2_2, .int .u64 a2_3] 26 (0, 0))) := ⟨h2_⟩
              have n3_ : Aside0 (w106.heap[gb150]? = some (.cells #[.int .i64 t145, .string t146, .int .i64 t147, .int .i64 t148] 34 (0, 0))) := ⟨h3_⟩
              have n4_ : Aside0 (w106.heap[gb156]? = some (.cells #[.int .i64 t151, .string t152, .int .i64 t153, .int .i64 t154] 34 (0, 0))) := ⟨h4_⟩
              have n5_ : Aside0 (w106.heap[gb162]? = some (.cells #[.int .i64 0, .string (⟨#[]⟩ : ByteArray), .int .i64 0, .int .i64 0] 34 (0, 0))) := ⟨h5_⟩
              have n6_ : Aside0 (w.heap.size ≤ gb162) := ⟨h6_⟩
              have n7_ : Aside0 (w.heap.size ≤ gb162) := ⟨h7_⟩
              have n8_ : Aside0 (gb101 ≠ gb162) := ⟨h8_⟩
              have n9_ : Aside0 (gb162 ≠ gb101) := ⟨h9_⟩
              have n10_ : Aside0 (gb102 ≠ gb162) := ⟨h10_⟩
              have n11_ : Aside0 (gb162 ≠ gb102) := ⟨h11_⟩
              have n12_ : Aside0 (gb103 ≠ gb162) := ⟨h12_⟩
              have n13_ : Aside0 (gb162 ≠ gb103) := ⟨h13_⟩
              have n14_ : Aside0 (gb150 ≠ gb162) := ⟨h14_⟩
              have n15_ : Aside0 (gb162 ≠ gb150) := ⟨h15_⟩
              have n16_ : Aside0 (gb156 ≠ gb162) := ⟨h16_⟩
              have n17_ : Aside0 (gb162 ≠ gb156) := ⟨h17_⟩
              have n18_ : Aside0 (Below w.heap.size w w106) := ⟨h18_⟩
              clear BK101 BK102
              clear BK103 BK150
              clear BK156 HB
              clear h0_ h1_ h2_ h3_ h4_ h5_ h6_ h7_ h8_ h9_ h10_ h11_ h12_ h13_ h14_ h15_ h16_ h17_ h18_
              have BK101 := n0_
              have BK102 := n1_
              have BK103 := n2_
              have BK150 := n3_
              have BK156 := n4_
              have BK162 := n5_
              have GW162 := n6_
              have GE162 := n7_
              have NB101_162 := n8_
              have NB162_101 := n9_
              have NB102_162 := n10_
              have NB162_102 := n11_
              have NB103_162 := n12_
              have NB162_103 := n13_
              have NB150_162 := n14_
              have NB162_150 := n15_
              have NB156_162 := n16_
              have NB162_156 := n17_
              have HB := n18_
              clear n0_ n1_ n2_ n3_ n4_ n5_ n6_ n7_ n8_ n9_ n10_ n11_ n12_ n13_ n14_ n15_ n16_ n17_ n18_
              have hHeld : w106.cell? ⟨gb102, 0, none⟩ = some (.int .i64 a1_0) ∧ w106.cell? ⟨gb102, 1, none⟩ = some (.string a1_1) ∧ w106.cell? ⟨gb102, 2, none⟩ = some (.int .i64 a1_2) ∧ w106.cell? ⟨gb102, 3, none⟩ = some (.int .i64 a1_3) := hS_
              refine norm_ (a' := ?_) ?_ ?_
              rotate_left
              ·
               simp only [putAll, Act.put, List.setIfInBounds_toArray, List.set_cons_zero, List.set_cons_succ]
               rfl
              refine one_ (i := 13) (N := none) #[true, true, true, true, true, true, true, true, true, true, true, true, true, true, false] rfl rfl (one_of HT_.out (by kernel_rfl)) (by decide) (fun K hK => ?_)
              have hs107 : w106.cell? ⟨gb162, 0, none⟩ = some (.int .i64 0) := (blk_cell BK162.out 0).trans rfl
              have hfs107 := blk_frozen BK162.out 0
              have hns107_0 := NB101_162.out
              have hns107_1 := NB102_162.out
              have hns107_2 := NB103_162.out
              have hns107_3 := NB150_162.out
              have hns107_4 := NB156_162.out
              have hms107_0 := NB162_101.out
              have hms107_1 := NB162_102.out
              have hms107_2 := NB162_103.out
              have hms107_3 := NB162_150.out
              have hms107_4 := NB162_156.out
              have hs108 : w106.cell? ⟨gb162, 1, none⟩ = some (.string (⟨#[]⟩ : ByteArray)) := (blk_cell BK162.out 1).trans rfl
              have hfs108 := blk_frozen BK162.out 1
              have hns108_0 := NB101_162.out
              have hns108_1 := NB102_162.out
              have hns108_2 := NB103_162.out
              have hns108_3 := NB150_162.out
              have hns108_4 := NB156_162.out
              have hms108_0 := NB162_101.out
              have hms108_1 := NB162_102.out
              have hms108_2 := NB162_103.out
              have hms108_3 := NB162_150.out
              have hms108_4 := NB162_156.out
              have hs109 : w106.cell? ⟨gb162, 2, none⟩ = some (.int .i64 0) := (blk_cell BK162.out 2).trans rfl
              have hfs109 := blk_frozen BK162.out 2
              have hns109_0 := NB101_162.out
              have hns109_1 := NB102_162.out
              have hns109_2 := NB103_162.out
              have hns109_3 := NB150_162.out
              have hns109_4 := NB156_162.out
              have hms109_0 := NB162_101.out
              have hms109_1 := NB162_102.out
              have hms109_2 := NB162_103.out
              have hms109_3 := NB162_150.out
              have hms109_4 := NB162_156.out
              have hs110 : w106.cell? ⟨gb162, 3, none⟩ = some (.int .i64 0) := (blk_cell BK162.out 3).trans rfl
              have hfs110 := blk_frozen BK162.out 3
              have hns110_0 := NB101_162.out
              have hns110_1 := NB102_162.out
              have hns110_2 := NB103_162.out
              have hns110_3 := NB150_162.out
              have hns110_4 := NB156_162.out
              have hms110_0 := NB162_101.out
              have hms110_1 := NB162_102.out
              have hms110_2 := NB162_103.out
              have hms110_3 := NB162_150.out
              have hms110_4 := NB162_156.out
              refine skip_ (w1 := ?_) (by rfl) rfl ?_ ?_
              rotate_left
              ·
               go_simp
               rfl
              refine hK.out _ _ ⟨((cell_far (p := ⟨gb162, _, none⟩) NB102_162.out _).trans (((cell_far (p := ⟨gb162, _, none⟩) NB102_162.out _).trans (((cell_far (p := ⟨gb162, _, none⟩) NB102_162.out _).trans (((cell_far (p := ⟨gb162, _, none⟩) NB102_162.out _).trans (hHeld.1)))))))), ((cell_far (p := ⟨gb162, _, none⟩) NB102_162.out _).trans (((cell_far (p := ⟨gb162, _, none⟩) NB102_162.out _).trans (((cell_far (p := ⟨gb162, _, none⟩) NB102_162.out _).trans (((cell_far (p := ⟨gb162, _, none⟩) NB102_162.out _).trans (hHeld.2.1)))))))), ((cell_far (p := ⟨gb162, _, none⟩) NB102_162.out _).trans (((cell_far (p := ⟨gb162, _, none⟩) NB102_162.out _).trans (((cell_far (p := ⟨gb162, _, none⟩) NB102_162.out _).trans (((cell_far (p := ⟨gb162, _, none⟩) NB102_162.out _).trans (hHeld.2.2.1)))))))), ((cell_far (p := ⟨gb162, _, none⟩) NB102_162.out _).trans (((cell_far (p := ⟨gb162, _, none⟩) NB102_162.out _).trans (((cell_far (p := ⟨gb162, _, none⟩) NB102_162.out _).trans (((cell_far (p := ⟨gb162, _, none⟩) NB102_162.out _).trans (hHeld.2.2.2))))))))⟩ (fun hHeld => ?_)
              clear hK K
              refine pure_ (i := 14) (N := some 24) (v := ?_) (a' := ?_) #[true, true, true, true, true, true, true, true, true, true, true, true, true, true, true] rfl rfl (any_of HT_.out (by kernel_rfl)) (fun _ _ _ h => h) (Or.inl ⟨by rfl, ?_⟩) ?_ ?_
              rotate_left
              ·
               intro w'
               go_simp
               with_reducible rfl
              rotate_left
              ·
               simp only [Act.put, List.setIfInBounds_toArray, List.set_cons_zero, List.set_cons_succ, i64_w, i32_w]
               rfl
              refine done_ (done_of HT_.out (by kernel_rfl)) ?_
              have hnb111 := NB150_162.out
              have hnc111 := NB162_150.out
              have hcz112_0 : w106.cell? ⟨gb150, 0, none⟩ = some (.int .i64 t145) := (blk_cell BK150.out 0).trans rfl
              have hcz112_1 : w106.cell? ⟨gb150, 1, none⟩ = some (.string t146) := (blk_cell BK150.out 1).trans rfl
              have hcz112_2 : w106.cell? ⟨gb150, 2, none⟩ = some (.int .i64 t147) := (blk_cell BK150.out 2).trans rfl
              have hcz112_3 : w106.cell? ⟨gb150, 3, none⟩ = some (.int .i64 t148) := (blk_cell BK150.out 3).trans rfl
              have hfz112_0 := blk_frozen BK150.out 0
              have hfz112_1 := blk_frozen BK150.out 1
              have hfz112_2 := blk_frozen BK150.out 2
              have hfz112_3 := blk_frozen BK150.out 3
              have hnb113 := NB102_162.out
              have hnc113 := NB162_102.out
              have hcz114_0 : w106.cell? ⟨gb102, 0, none⟩ = some (.int .i64 a1_0) := (blk_cell BK102.out 0).trans rfl
              have hcz114_1 : w106.cell? ⟨gb102, 1, none⟩ = some (.string a1_1) := (blk_cell BK102.out 1).trans rfl
              have hcz114_2 : w106.cell? ⟨gb102, 2, none⟩ = some (.int .i64 a1_2) := (blk_cell BK102.out 2).trans rfl
              have hcz114_3 : w106.cell? ⟨gb102, 3, none⟩ = some (.int .i64 a1_3) := (blk_cell BK102.out 3).trans rfl
              have hfz114_0 := blk_frozen BK102.out 0
              have hfz114_1 := blk_frozen BK102.out 1
              have hfz114_2 := blk_frozen BK102.out 2
              have hfz114_3 := blk_frozen BK102.out 3
              try go_wp2
              go_meet
              case rel => exact ⟨_, H', ⟨by have := HJ7.out; first | omega | exact Nat.le_refl _⟩, ⟨by (with_reducible repeat first | apply bN_ | apply bD_ | apply bA_); refine blk_far ?_ NB101_162.out _; (with_reducible repeat first | apply bN_ | apply bD_ | apply bA_); refine blk_far ?_ NB101_162.out _; (with_reducible repeat first | apply bN_ | apply bD_ | apply bA_); refine blk_far ?_ NB101_162.out _; (with_reducible repeat first | apply bN_ | apply bD_ | apply bA_); refine blk_far ?_ NB101_162.out _; (with_reducible repeat first | apply bN_ | apply bD_ | apply bA_); exact BK101.out⟩, ⟨by (with_reducible repeat first | apply bN_ | apply bD_ | apply bA_); refine blk_far ?_ NB102_162.out _; (with_reducible repeat first | apply bN_ | apply bD_ | apply bA_); refine blk_far ?_ NB102_162.out _; (with_reducible repeat first | apply bN_ | apply bD_ | apply bA_); refine blk_far ?_ NB102_162.out _; (with_reducible repeat first | apply bN_ | apply bD_ | apply bA_); refine blk_far ?_ NB102_162.out _; (with_reducible repeat first | apply bN_ | apply bD_ | apply bA_); exact BK102.out⟩, ⟨by (with_reducible repeat first | apply bN_ | apply bD_ | apply bA_); refine blk_far ?_ NB103_162.out _; (with_reducible repeat first | apply bN_ | apply bD_ | apply bA_); refine blk_far ?_ NB103_162.out _; (with_reducible repeat first | apply bN_ | apply bD_ | apply bA_); refine blk_far ?_ NB103_162.out _; (with_reducible repeat first | apply bN_ | apply bD_ | apply bA_); refine blk_far ?_ NB103_162.out _; (with_reducible repeat first | apply bN_ | apply bD_ | apply bA_); exact BK103.out⟩, ⟨by repeat (first | (with_reducible first | exact HB.out | apply wA_ | apply wN_ | apply wD_ | refine below_set ?_ GE101.out | refine below_set ?_ GE102.out | refine below_set ?_ GE103.out | refine below_set ?_ GE150.out | refine below_set ?_ GE156.out | refine below_set ?_ GE162.out) | exact HB.out)⟩⟩
            ·
             rw [if_neg c83] at H
             have c83b0 : (t161 == 2) = false := beq_eq_false_iff_ne.mpr c83
             have c83b1 : (t161 != 2) = true := bne_iff_ne.mpr c83
             obtain rfl := Option.some.inj H
             exact absurd hrp_ (by decide)
          ·
           rw [if_neg c81] at H
           have c81b0 : (t149 == 0) = false := beq_eq_false_iff_ne.mpr c81
           have c81b1 : (t149 != 0) = true := bne_iff_ne.mpr c81
           obtain rfl := Option.some.inj H
           exact absurd hrp_ (by decide)
        ·
         rw [if_neg c78] at H
         exact absurd H (by simp)
       ·
        rw [if_neg c77] at H
        exact absurd H (by simp)
      ·
       rw [if_neg c74] at H
       exact absurd H (by simp)
     ·
      rw [if_neg c72] at H
      have c72b0 : (t144 == 0) = false := beq_eq_false_iff_ne.mpr c72
      have c72b1 : (t144 != 0) = true := bne_iff_ne.mpr c72
      (first | rw [c72b0] | (simp only [i64_w, i32_w]; rw [c72b0]) | skip)
      have H' := Aside0.mk H
      clear H
      go_wp2
      go_meet
      case rel => exact ⟨_, H', ⟨by have := HJ7.out; first | omega | exact Nat.le_refl _⟩, ⟨by (with_reducible repeat first | apply bN_ | apply bD_ | apply bA_); exact BK101.out⟩, ⟨by (with_reducible repeat first | apply bN_ | apply bD_ | apply bA_); exact BK102.out⟩, ⟨by (with_reducible repeat first | apply bN_ | apply bD_ | apply bA_); exact BK103.out⟩, ⟨by repeat (first | (with_reducible first | exact HB.out | apply wA_ | apply wN_ | apply wD_ | refine below_set ?_ GE101.out | refine below_set ?_ GE102.out | refine below_set ?_ GE103.out) | exact HB.out)⟩⟩
    case rest =>
     clear HC67
     try clear c1
     try clear c2
     try clear p2
     try clear p6
     try clear c7
     try clear c8
     try clear c9
     try clear c10
     try clear c11
     try clear c25
     try clear p64
     try clear c72
     try clear c72b0
     try clear c72b1
     try clear c74
     try clear c74b0
     try clear c74b1
     try clear c74b2
     try clear c77
     try clear c77b0
     try clear c77b1
     try clear c78
     try clear c78b0
     try clear c78b1
     try clear c80
     try clear c80b0
     try clear c81
     try clear c81b0
     try clear c81b1
     try clear c82
     try clear c82b0
     try clear c82b1
     try clear c82b2
     try clear c83
     try clear c83b0
     try clear c83b1
     try clear c84
     try clear c84b0
     try clear c84b1
     try clear c85
     try clear c86
     try clear c90
     try clear c91
     try clear c92
     try clear c97
     try clear c98
     try clear c99
     try clear c100
     try clear c111
     try clear c113
     try clear hcz101_0
     try clear hcz101_1
     try clear hcz101_2
     try clear hcz101_3
     try clear hcz112_0
     try clear hcz112_1
     try clear hcz112_2
     try clear hcz112_3
     try clear hcz114_0
     try clear hcz114_1
     try clear hcz114_2
     try clear hcz114_3
     try clear hcz87_0
     try clear hcz87_1
     try clear hcz87_2
     try clear hcz87_3
     try clear hcz93_0
     try clear hcz93_1
     try clear hcz93_2
     try clear hcz93_3
     try clear hcz94_0
     try clear hcz94_1
     try clear hcz94_2
     try clear hcz94_3
     try clear hfz101_0
     try clear hfz101_1
     try clear hfz101_2
     try clear hfz101_3
     try clear hfz112_0
     try clear hfz112_1
     try clear hfz112_2
     try clear hfz112_3
     try clear hfz114_0
     try clear hfz114_1
     try clear hfz114_2
     try clear hfz114_3
     try clear hfz87_0
     try clear hfz87_1
     try clear hfz87_2
     try clear hfz87_3
     try clear hfz93_0
     try clear hfz93_1
     try clear hfz93_2
     try clear hfz93_3
     try clear hfz94_0
     try clear hfz94_1
     try clear hfz94_2
     try clear hfz94_3
     obtain ⟨kq, HA, HJ66, BK101, BK102, BK103, HB⟩ := hcut
     cases kq with
     | zero => exact absurd HA.out (by simp [bailiwicklaw14_RecBack.j1])
     | succ kj66 =>
      have H := HA.out
      clear HA
      simp only [bailiwicklaw14_RecBack.j1] at H
      replace H := Option.bind_eq_some_iff.mp H
      obtain ⟨⟨t163, t164⟩, A1150, H⟩ := H
      replace H : (if t164 = 0 then ((G.xTakeSlot.f a2_0 t163).bind fun bt165 => (if t163.size + a3.size ≤ 9223372036854775807 then ((G.xTakeSlot.f a2_0 (t163 ++ a3)).bind fun bt171 => (if 0 ≤ (mx (wrap64 ((t163.size : Int) - 1)) 0) then (if (mx (wrap64 ((t163.size : Int) - 1)) 0) ≤ (t163.size : Int) then ((G.xTakeSlot.f a2_0 (t163.extract 0 ((mx (wrap64 ((t163.size : Int) - 1)) 0) : Int).toNat)).bind fun bt177 => (if (!(bt165.1 == a2_0) || (!(bt165.2.1 == a2_1) || (!(bt165.2.2.1 == a2_2) || (!(bt165.2.2.2.1 == a2_3))))) = true then (some false) else (if bt165.2.2.2.2 = 0 then (if ((bt171.2.2.2.2 == 0) != (a3.toList == ([] : List UInt8))) = true then (some false) else (if bt177.2.2.2.2 = 2 then (if (t163.size : Int) > 40 then (some false) else (some true)) else (some false))) else (some false)))) else (none)) else (none))) else (none))) else (some true)) = some r := H
      have A115 := Aside0.mk A1150
      clear A1150
      by_cases c116 : t164 = 0
      ·
       rw [if_pos c116] at H
       have c116b0 : (t164 == 0) = true := beq_iff_eq.mpr c116
       have c116b1 : (t164 != 0) = false := bne_eq_false_iff_eq.mpr c116
       clear c116
       replace H := Option.bind_eq_some_iff.mp H
       obtain ⟨⟨t165, t166, t167, t168, t169⟩, A1170, H⟩ := H
       replace H : (if t163.size + a3.size ≤ 9223372036854775807 then ((G.xTakeSlot.f a2_0 (t163 ++ a3)).bind fun bt171 => (if 0 ≤ (mx (wrap64 ((t163.size : Int) - 1)) 0) then (if (mx (wrap64 ((t163.size : Int) - 1)) 0) ≤ (t163.size : Int) then ((G.xTakeSlot.f a2_0 (t163.extract 0 ((mx (wrap64 ((t163.size : Int) - 1)) 0) : Int).toNat)).bind fun bt177 => (if (!(t165 == a2_0) || (!(t166 == a2_1) || (!(t167 == a2_2) || (!(t168 == a2_3))))) = true then (some false) else (if t169 = 0 then (if ((bt171.2.2.2.2 == 0) != (a3.toList == ([] : List UInt8))) = true then (some false) else (if bt177.2.2.2.2 = 2 then (if (t163.size : Int) > 40 then (some false) else (some true)) else (some false))) else (some false)))) else (none)) else (none))) else (none)) = some r := H
       have A117 := Aside0.mk A1170
       clear A1170
       by_cases c118 : t163.size + a3.size ≤ 9223372036854775807
       ·
        rw [if_pos c118] at H
        have c118b0 := eq_true c118
        have c118b1 : decide (t163.size + a3.size ≤ 9223372036854775807) = true := decide_eq_true c118
        try have c118b2 : (9223372036854775807 < t163.size + a3.size) = False := eq_false (Nat.not_lt.2 c118)
        replace H := Option.bind_eq_some_iff.mp H
        obtain ⟨⟨t171, t172, t173, t174, t175⟩, A1190, H⟩ := H
        replace H : (if 0 ≤ (mx (wrap64 ((t163.size : Int) - 1)) 0) then (if (mx (wrap64 ((t163.size : Int) - 1)) 0) ≤ (t163.size : Int) then ((G.xTakeSlot.f a2_0 (t163.extract 0 ((mx (wrap64 ((t163.size : Int) - 1)) 0) : Int).toNat)).bind fun bt177 => (if (!(t165 == a2_0) || (!(t166 == a2_1) || (!(t167 == a2_2) || (!(t168 == a2_3))))) = true then (some false) else (if t169 = 0 then (if ((t175 == 0) != (a3.toList == ([] : List UInt8))) = true then (some false) else (if bt177.2.2.2.2 = 2 then (if (t163.size : Int) > 40 then (some false) else (some true)) else (some false))) else (some false)))) else (none)) else (none)) = some r := H
        have A119 := Aside0.mk A1190
        clear A1190
        obtain ⟨ji120, hji120⟩ : ∃ j_ : Int, (mx (wrap64 ((t163.size : Int) - 1)) 0) = j_ := ⟨_, rfl⟩
        replace H : (if 0 ≤ (ji120) then (if (ji120) ≤ (t163.size : Int) then ((G.xTakeSlot.f a2_0 (t163.extract 0 ((ji120) : Int).toNat)).bind fun bt177 => (if (!(t165 == a2_0) || (!(t166 == a2_1) || (!(t167 == a2_2) || (!(t168 == a2_3))))) = true then (some false) else (if t169 = 0 then (if ((t175 == 0) != (a3.toList == ([] : List UInt8))) = true then (some false) else (if bt177.2.2.2.2 = 2 then (if (t163.size : Int) > 40 then (some false) else (some true)) else (some false))) else (some false)))) else (none)) else (none)) = some r := by first | (rw [hji120] at H; exact H) | (simp only [hji120] at H ⊢; exact H)
        (try rw [hji120] at A115)
        (try rw [hji120] at A117)
        (try rw [hji120] at A119)
        (try (have hji120l : 0 ≤ ji120 := by (rw [← hji120]; unfold mx; (repeat' split) <;> omega)))
        (try (have hji120m : 0 ≤ ji120 := by omega))
        have hji120_ : (if (wrap64 ((t163.size : Int) - 1)) < 0 then 0 else (wrap64 ((t163.size : Int) - 1))) = ji120 := hji120
        by_cases c121 : 0 ≤ (ji120)
        ·
         rw [if_pos c121] at H
         have c121b0 := eq_true c121
         have c121b1 : decide (0 ≤ (ji120)) = true := decide_eq_true c121
         clear c121
         by_cases c122 : (ji120) ≤ (t163.size : Int)
         ·
          rw [if_pos c122] at H
          have c122b0 := eq_true c122
          have c122b1 : decide ((ji120) ≤ (t163.size : Int)) = true := decide_eq_true c122
          clear c122
          replace H := Option.bind_eq_some_iff.mp H
          obtain ⟨⟨t177, t178, t179, t180, t181⟩, A1230, H⟩ := H
          replace H : (if (!(t165 == a2_0) || (!(t166 == a2_1) || (!(t167 == a2_2) || (!(t168 == a2_3))))) = true then (some false) else (if t169 = 0 then (if ((t175 == 0) != (a3.toList == ([] : List UInt8))) = true then (some false) else (if t181 = 2 then (if (t163.size : Int) > 40 then (some false) else (some true)) else (some false))) else (some false))) = some r := H
          have A123 := Aside0.mk A1230
          clear A1230
          by_cases c124 : (!(t165 == a2_0) || (!(t166 == a2_1) || (!(t167 == a2_2) || (!(t168 == a2_3))))) = true
          ·
           rw [if_pos c124] at H
           have c124b0 : (!(t165 == a2_0) || (!(t166 == a2_1) || (!(t167 == a2_2) || (!(t168 == a2_3))))) = true := c124
           clear c124
           obtain rfl := Option.some.inj H
           exact absurd hrp_ (by decide)
          ·
           rw [if_neg c124] at H
           have c124b0 : (!(t165 == a2_0) || (!(t166 == a2_1) || (!(t167 == a2_2) || (!(t168 == a2_3))))) = false := by simpa using c124
           clear c124
           by_cases c125 : t169 = 0
           ·
            rw [if_pos c125] at H
            have c125b0 : (t169 == 0) = true := beq_iff_eq.mpr c125
            have c125b1 : (t169 != 0) = false := bne_eq_false_iff_eq.mpr c125
            clear c125
            by_cases c126 : ((t175 == 0) != (a3.toList == ([] : List UInt8))) = true
            ·
             rw [if_pos c126] at H
             have c126b0 : ((t175 == 0) != (a3.toList == ([] : List UInt8))) = true := c126
             (try (have c126b1 : decide ((t175 == 0) = (a3.toList == ([] : List UInt8))) = false := by simpa using c126))
             (try (have c126b2 : ((t175 == 0) == (a3.toList == ([] : List UInt8))) = false := by simpa using c126))
             (try (have c126b3 : ¬ ((t175 == 0) = (a3.toList == ([] : List UInt8))) := by simpa using c126))
             clear c126
             obtain rfl := Option.some.inj H
             exact absurd hrp_ (by decide)
            ·
             rw [if_neg c126] at H
             have c126b0 : ((t175 == 0) != (a3.toList == ([] : List UInt8))) = false := by simpa using c126
             have c126e : (t175 == 0) = a3.toList.isEmpty := by revert c126; cases (t175 == 0) <;> cases a3.toList <;> simp
             (try (have c126b1 : decide ((t175 == 0) = (a3.toList == ([] : List UInt8))) = true := by simpa using c126))
             (try (have c126b2 : ((t175 == 0) == (a3.toList == ([] : List UInt8))) = true := by simpa using c126))
             clear c126
             by_cases c127 : t181 = 2
             ·
              rw [if_pos c127] at H
              have c127b0 : (t181 == 2) = true := beq_iff_eq.mpr c127
              have c127b1 : (t181 != 2) = false := bne_eq_false_iff_eq.mpr c127
              clear c127
              by_cases c128 : (t163.size : Int) > 40
              ·
               rw [if_pos c128] at H
               have c128b0 : decide (40 < (t163.size : Int)) = true := decide_eq_true c128
               have c128b1 : decide (40 < t163.size) = true := decide_eq_true (by omega)
               clear c128
               obtain rfl := Option.some.inj H
               exact absurd hrp_ (by decide)
              ·
               rw [if_neg c128] at H
               have c128b0 : decide (40 < (t163.size : Int)) = false := decide_eq_false c128
               have c128b1 : decide (40 < t163.size) = false := decide_eq_false (by omega)
               clear c128
               obtain rfl := Option.some.inj H
               clear hrp_
               have hnb129 := NB103_101.out
               have hnc129 := NB101_103.out
               have hnb130 := NB103_102.out
               have hnc130 := NB102_103.out
               have hcz131_0 : wc.cell? ⟨gb103, 0, none⟩ = some (.int .i64 a2_0) := (blk_cell BK103.out 0).trans rfl
               have hcz131_1 : wc.cell? ⟨gb103, 1, none⟩ = some (.int .i64 a2_1) := (blk_cell BK103.out 1).trans rfl
               have hcz131_2 : wc.cell? ⟨gb103, 2, none⟩ = some (.int .i64 a2_2) := (blk_cell BK103.out 2).trans rfl
               have hcz131_3 : wc.cell? ⟨gb103, 3, none⟩ = some (.int .u64 a2_3) := (blk_cell BK103.out 3).trans rfl
               have hfz131_0 := blk_frozen BK103.out 0
               have hfz131_1 := blk_frozen BK103.out 1
               have hfz131_2 := blk_frozen BK103.out 2
               have hfz131_3 := blk_frozen BK103.out 3
               try go_wp2_with (first | ((with_reducible refine gate_callee (f := 14) rfl ?_); refine goesL_ (some 153) rfl rfl Try.func14 (by kernel_rfl) rfl #[.agg #[.int .i64 a2_0, .int .i64 a2_1, .int .i64 a2_2, .int .u64 a2_3]] rfl (by (try simp only [List.map_toArray, List.map_cons, List.map_nil]); first | done | rfl | (simp only [List.length_drop, List.length_take]; rfl)) ?_; (with_reducible refine (G.xPutSlot.calls a2_0 a2_1 a2_2 a2_3 t163 t164 _ A115.out).mono ?_); rintro e w132 ⟨rfl, hb⟩; refine ⟨_, rfl, ?_⟩; have n0_ := Aside0.mk (blk_below (g := gb101) (o := oB0_ a0_0 a0_1 a0_2 a0_3 a0_4 a0_5 a0_6 a0_7 a0_8 a0_9) (by (with_reducible repeat first | apply bN_ | apply bD_ | apply bA_); exact BK101.out) hb); have n1_ := Aside0.mk (blk_below (g := gb102) (o := oB1_ a1_0 a1_1 a1_2 a1_3) (by (with_reducible repeat first | apply bN_ | apply bD_ | apply bA_); exact BK102.out) hb); have n2_ := Aside0.mk (blk_below (g := gb103) (o := oB2_ a2_0 a2_1 a2_2 a2_3) (by (with_reducible repeat first | apply bN_ | apply bD_ | apply bA_); exact BK103.out) hb); have n3_ := Aside0.mk (below_step (by repeat (first | (with_reducible first | exact HB.out | apply wA_ | apply wN_ | apply wD_ | refine below_set ?_ GE101.out | refine below_set ?_ GE102.out | refine below_set ?_ GE103.out) | exact HB.out)) hb); clear BK101 BK102 BK103 HB; have BK101 := n0_; have BK102 := n1_; have BK103 := n2_; have HB := n3_; clear n0_ n1_ n2_ n3_; (try clear hb); (try clear hb2); (try clear hk); (try clear hi); have hcz133_0 : w132.cell? ⟨gb103, 0, none⟩ = some (.int .i64 a2_0) := (blk_cell BK103.out 0).trans rfl; have hcz133_1 : w132.cell? ⟨gb103, 1, none⟩ = some (.int .i64 a2_1) := (blk_cell BK103.out 1).trans rfl; have hcz133_2 : w132.cell? ⟨gb103, 2, none⟩ = some (.int .i64 a2_2) := (blk_cell BK103.out 2).trans rfl; have hcz133_3 : w132.cell? ⟨gb103, 3, none⟩ = some (.int .u64 a2_3) := (blk_cell BK103.out 3).trans rfl; have hfz133_0 := blk_frozen BK103.out 0; have hfz133_1 := blk_frozen BK103.out 1; have hfz133_2 := blk_frozen BK103.out 2; have hfz133_3 := blk_frozen BK103.out 3) | ((with_reducible refine gate_callee (f := 16) rfl ?_); refine goesL_ (some 162) rfl rfl Try.func16 (by kernel_rfl) rfl #[.int .i64 a2_0, .string t163] rfl (by (try simp only [List.map_toArray, List.map_cons, List.map_nil]); first | done | rfl | (simp only [List.length_drop, List.length_take]; rfl)) ?_; (with_reducible refine (G.xTakeSlot.calls a2_0 t163 t165 t166 t167 t168 t169 _ A117.out).mono ?_); rintro e w134 ⟨rfl, hb⟩; refine ⟨_, rfl, ?_⟩; have n0_ := Aside0.mk (blk_below (g := gb101) (o := oB0_ a0_0 a0_1 a0_2 a0_3 a0_4 a0_5 a0_6 a0_7 a0_8 a0_9) (by (with_reducible repeat first | apply bN_ | apply bD_ | apply bA_); exact BK101.out) hb); have n1_ := Aside0.mk (blk_below (g := gb102) (o := oB1_ a1_0 a1_1 a1_2 a1_3) (by (with_reducible repeat first | apply bN_ | apply bD_ | apply bA_); exact BK102.out) hb); have n2_ := Aside0.mk (blk_below (g := gb103) (o := oB2_ a2_0 a2_1 a2_2 a2_3) (by (with_reducible repeat first | apply bN_ | apply bD_ | apply bA_); exact BK103.out) hb); have n3_ := Aside0.mk (below_step (by repeat (first | (with_reducible first | exact HB.out | apply wA_ | apply wN_ | apply wD_ | refine below_set ?_ GE101.out | refine below_set ?_ GE102.out | refine below_set ?_ GE103.out) | exact HB.out)) hb); clear BK101 BK102 BK103 HB; have BK101 := n0_; have BK102 := n1_; have BK103 := n2_; have HB := n3_; clear n0_ n1_ n2_ n3_; (try clear hb); (try clear hb2); (try clear hk); (try clear hi)) | ((with_reducible refine gate_dst (N := 26) rfl ?_); (try (refine gate_guard (by rfl) ?_; dsimp only)); refine box_event ?hg (N := 26) ?hd (cs := #[.int .i64 0, .int .i64 0, .int .i64 0, .int .u64 0]) (t := 26) ?hr ?_; (case hd => rfl); (case hg => rfl); (case hr => first | (go_simp; done) | (go_simp; rfl)); intro gb170 hg w135 hbox hb; have n0_ := Aside0.mk (blk_below (g := gb101) (o := oB0_ a0_0 a0_1 a0_2 a0_3 a0_4 a0_5 a0_6 a0_7 a0_8 a0_9) (by (with_reducible repeat first | apply bN_ | apply bD_ | apply bA_); exact BK101.out) hb); have n1_ := Aside0.mk (blk_below (g := gb102) (o := oB1_ a1_0 a1_1 a1_2 a1_3) (by (with_reducible repeat first | apply bN_ | apply bD_ | apply bA_); exact BK102.out) hb); have n2_ := Aside0.mk (blk_below (g := gb103) (o := oB2_ a2_0 a2_1 a2_2 a2_3) (by (with_reducible repeat first | apply bN_ | apply bD_ | apply bA_); exact BK103.out) hb); have n3_ := Aside0.mk (below_step (by repeat (first | (with_reducible first | exact HB.out | apply wA_ | apply wN_ | apply wD_ | refine below_set ?_ GE101.out | refine below_set ?_ GE102.out | refine below_set ?_ GE103.out) | exact HB.out)) hb); have n4_ := Aside0.mk (hbox); have n5_ := Aside0.mk ((by rw [hg]; exact (below_size (by repeat (first | (with_reducible first | exact HB.out | apply wA_ | apply wN_ | apply wD_ | refine below_set ?_ GE101.out | refine below_set ?_ GE102.out | refine below_set ?_ GE103.out) | exact HB.out))) : w.heap.size ≤ gb170)); have n6_ := Aside0.mk ((by rw [hg]; exact (below_size (by repeat (first | (with_reducible first | exact HB.out | apply wA_ | apply wN_ | apply wD_ | refine below_set ?_ GE101.out | refine below_set ?_ GE102.out | refine below_set ?_ GE103.out) | exact HB.out))) : w.heap.size ≤ gb170)); have n7_ := Aside0.mk ((by rw [hg]; exact Nat.ne_of_lt (blk_lt (g := gb101) (o := oB0_ a0_0 a0_1 a0_2 a0_3 a0_4 a0_5 a0_6 a0_7 a0_8 a0_9) (by (with_reducible repeat first | apply bN_ | apply bD_ | apply bA_); exact BK101.out)) : gb101 ≠ gb170)); have n8_ := Aside0.mk ((by rw [hg]; exact Nat.ne_of_gt (blk_lt (g := gb101) (o := oB0_ a0_0 a0_1 a0_2 a0_3 a0_4 a0_5 a0_6 a0_7 a0_8 a0_9) (by (with_reducible repeat first | apply bN_ | apply bD_ | apply bA_); exact BK101.out)) : gb170 ≠ gb101)); have n9_ := Aside0.mk ((by rw [hg]; exact Nat.ne_of_lt (blk_lt (g := gb102) (o := oB1_ a1_0 a1_1 a1_2 a1_3) (by (with_reducible repeat first | apply bN_ | apply bD_ | apply bA_); exact BK102.out)) : gb102 ≠ gb170)); have n10_ := Aside0.mk ((by rw [hg]; exact Nat.ne_of_gt (blk_lt (g := gb102) (o := oB1_ a1_0 a1_1 a1_2 a1_3) (by (with_reducible repeat first | apply bN_ | apply bD_ | apply bA_); exact BK102.out)) : gb170 ≠ gb102)); have n11_ := Aside0.mk ((by rw [hg]; exact Nat.ne_of_lt (blk_lt (g := gb103) (o := oB2_ a2_0 a2_1 a2_2 a2_3) (by (with_reducible repeat first | apply bN_ | apply bD_ | apply bA_); exact BK103.out)) : gb103 ≠ gb170)); have n12_ := Aside0.mk ((by rw [hg]; exact Nat.ne_of_gt (blk_lt (g := gb103) (o := oB2_ a2_0 a2_1 a2_2 a2_3) (by (with_reducible repeat first | apply bN_ | apply bD_ | apply bA_); exact BK103.out)) : gb170 ≠ gb103)); clear BK101 BK102 BK103 HB; have BK101 := n0_; have BK102 := n1_; have BK103 := n2_; have HB := n3_; have BK170 := n4_; have GW170 := n5_; have GE170 := n6_; have NB101_170 := n7_; have NB170_101 := n8_; have NB102_170 := n9_; have NB170_102 := n10_; have NB103_170 := n11_; have NB170_103 := n12_; clear n0_ n1_ n2_ n3_ n4_ n5_ n6_ n7_ n8_ n9_ n10_ n11_ n12_; clear hb hbox hg; have hnb136 := NB170_101.out; have hnc136 := NB101_170.out; have hnb137 := NB170_102.out; have hnc137 := NB102_170.out; have hnb138 := NB170_103.out; have hnc138 := NB103_170.out; have hcz139_0 : w135.cell? ⟨gb170, 0, none⟩ = some (.int .i64 0) := (blk_cell BK170.out 0).trans rfl; have hcz139_1 : w135.cell? ⟨gb170, 1, none⟩ = some (.int .i64 0) := (blk_cell BK170.out 1).trans rfl; have hcz139_2 : w135.cell? ⟨gb170, 2, none⟩ = some (.int .i64 0) := (blk_cell BK170.out 2).trans rfl; have hcz139_3 : w135.cell? ⟨gb170, 3, none⟩ = some (.int .u64 0) := (blk_cell BK170.out 3).trans rfl; have hfz139_0 := blk_frozen BK170.out 0; have hfz139_1 := blk_frozen BK170.out 1; have hfz139_2 := blk_frozen BK170.out 2; have hfz139_3 := blk_frozen BK170.out 3; have hcz140_0 : w135.cell? ⟨gb103, 0, none⟩ = some (.int .i64 a2_0) := (blk_cell BK103.out 0).trans rfl; have hcz140_1 : w135.cell? ⟨gb103, 1, none⟩ = some (.int .i64 a2_1) := (blk_cell BK103.out 1).trans rfl; have hcz140_2 : w135.cell? ⟨gb103, 2, none⟩ = some (.int .i64 a2_2) := (blk_cell BK103.out 2).trans rfl; have hcz140_3 : w135.cell? ⟨gb103, 3, none⟩ = some (.int .u64 a2_3) := (blk_cell BK103.out 3).trans rfl; have hfz140_0 := blk_frozen BK103.out 0; have hfz140_1 := blk_frozen BK103.out 1; have hfz140_2 := blk_frozen BK103.out 2; have hfz140_3 := blk_frozen BK103.out 3) | ((with_reducible refine gate_callee (f := 16) rfl ?_); refine goesL_ (some 171) rfl rfl Try.func16 (by kernel_rfl) rfl #[.int .i64 a2_0, .string (t163 ++ a3)] rfl (by (try simp only [List.map_toArray, List.map_cons, List.map_nil]); first | done | rfl | (simp only [List.length_drop, List.length_take]; rfl)) ?_; (with_reducible refine (G.xTakeSlot.calls a2_0 (t163 ++ a3) t171 t172 t173 t174 t175 _ A119.out).mono ?_); rintro e w141 ⟨rfl, hb⟩; refine ⟨_, rfl, ?_⟩; have n0_ := Aside0.mk (blk_below (g := gb101) (o := oB0_ a0_0 a0_1 a0_2 a0_3 a0_4 a0_5 a0_6 a0_7 a0_8 a0_9) (by (with_reducible repeat first | apply bN_ | apply bD_ | apply bA_); refine blk_far ?_ NB101_170.out _; (with_reducible repeat first | apply bN_ | apply bD_ | apply bA_); refine blk_far ?_ NB101_170.out _; (with_reducible repeat first | apply bN_ | apply bD_ | apply bA_); refine blk_far ?_ NB101_170.out _; (with_reducible repeat first | apply bN_ | apply bD_ | apply bA_); refine blk_far ?_ NB101_170.out _; (with_reducible repeat first | apply bN_ | apply bD_ | apply bA_); exact BK101.out) hb); have n1_ := Aside0.mk (blk_below (g := gb102) (o := oB1_ a1_0 a1_1 a1_2 a1_3) (by (with_reducible repeat first | apply bN_ | apply bD_ | apply bA_); refine blk_far ?_ NB102_170.out _; (with_reducible repeat first | apply bN_ | apply bD_ | apply bA_); refine blk_far ?_ NB102_170.out _; (with_reducible repeat first | apply bN_ | apply bD_ | apply bA_); refine blk_far ?_ NB102_170.out _; (with_reducible repeat first | apply bN_ | apply bD_ | apply bA_); refine blk_far ?_ NB102_170.out _; (with_reducible repeat first | apply bN_ | apply bD_ | apply bA_); exact BK102.out) hb); have n2_ := Aside0.mk (blk_below (g := gb103) (o := oB2_ a2_0 a2_1 a2_2 a2_3) (by (with_reducible repeat first | apply bN_ | apply bD_ | apply bA_); refine blk_far ?_ NB103_170.out _; (with_reducible repeat first | apply bN_ | apply bD_ | apply bA_); refine blk_far ?_ NB103_170.out _; (with_reducible repeat first | apply bN_ | apply bD_ | apply bA_); refine blk_far ?_ NB103_170.out _; (with_reducible repeat first | apply bN_ | apply bD_ | apply bA_); refine blk_far ?_ NB103_170.out _; (with_reducible repeat first | apply bN_ | apply bD_ | apply bA_); exact BK103.out) hb); have n3_ := Aside0.mk (blk_below (g := gb170) (o := oB2_ t165 t166 t167 t168) (by (with_reducible repeat first | apply bN_ | apply bD_ | apply bA_); refine blk_put (cs := #[.int .i64 t165, .int .i64 t166, .int .i64 t167, .int .u64 0]) ?_ 3 _ rfl; (with_reducible repeat first | apply bN_ | apply bD_ | apply bA_); refine blk_put (cs := #[.int .i64 t165, .int .i64 t166, .int .i64 0, .int .u64 0]) ?_ 2 _ rfl; (with_reducible repeat first | apply bN_ | apply bD_ | apply bA_); refine blk_put (cs := #[.int .i64 t165, .int .i64 0, .int .i64 0, .int .u64 0]) ?_ 1 _ rfl; (with_reducible repeat first | apply bN_ | apply bD_ | apply bA_); refine blk_put (cs := #[.int .i64 0, .int .i64 0, .int .i64 0, .int .u64 0]) ?_ 0 _ rfl; (with_reducible repeat first | apply bN_ | apply bD_ | apply bA_); exact BK170.out) hb); have n4_ := Aside0.mk (below_step (by repeat (first | (with_reducible first | exact HB.out | apply wA_ | apply wN_ | apply wD_ | refine below_set ?_ GE101.out | refine below_set ?_ GE102.out | refine below_set ?_ GE103.out | refine below_set ?_ GE170.out) | exact HB.out)) hb); clear BK101 BK102 BK103 BK170; clear HB; have BK101 := n0_; have BK102 := n1_; have BK103 := n2_; have BK170 := n3_; have HB := n4_; clear n0_ n1_ n2_ n3_ n4_; (try clear hb); (try clear hb2); (try clear hk); (try clear hi)) | ((with_reducible refine gate_dst (N := 28) rfl ?_); (try (refine gate_guard (by rfl) ?_; dsimp only)); refine box_event ?hg (N := 28) ?hd (cs := #[.int .i64 0, .int .i64 0, .int .i64 0, .int .u64 0]) (t := 26) ?hr ?_; (case hd => rfl); (case hg => rfl); (case hr => first | (go_simp; done) | (go_simp; rfl)); intro gb176 hg w142 hbox hb; have n0_ := Aside0.mk (blk_below (g := gb101) (o := oB0_ a0_0 a0_1 a0_2 a0_3 a0_4 a0_5 a0_6 a0_7 a0_8 a0_9) (by (with_reducible repeat first | apply bN_ | apply bD_ | apply bA_); exact BK101.out) hb); have n1_ := Aside0.mk (blk_below (g := gb102) (o := oB1_ a1_0 a1_1 a1_2 a1_3) (by (with_reducible repeat first | apply bN_ | apply bD_ | apply bA_); exact BK102.out) hb); have n2_ := Aside0.mk (blk_below (g := gb103) (o := oB2_ a2_0 a2_1 a2_2 a2_3) (by (with_reducible repeat first | apply bN_ | apply bD_ | apply bA_); exact BK103.out) hb); have n3_ := Aside0.mk (blk_below (g := gb170) (o := oB2_ t165 t166 t167 t168) (by (with_reducible repeat first | apply bN_ | apply bD_ | apply bA_); exact BK170.out) hb); have n4_ := Aside0.mk (below_step (by repeat (first | (with_reducible first | exact HB.out | apply wA_ | apply wN_ | apply wD_ | refine below_set ?_ GE101.out | refine below_set ?_ GE102.out | refine below_set ?_ GE103.out | refine below_set ?_ GE170.out) | exact HB.out)) hb); have n5_ := Aside0.mk (hbox); have n6_ := Aside0.mk ((by rw [hg]; exact (below_size (by repeat (first | (with_reducible first | exact HB.out | apply wA_ | apply wN_ | apply wD_ | refine below_set ?_ GE101.out | refine below_set ?_ GE102.out | refine below_set ?_ GE103.out | refine below_set ?_ GE170.out) | exact HB.out))) : w.heap.size ≤ gb176)); have n7_ := Aside0.mk ((by rw [hg]; exact (below_size (by repeat (first | (with_reducible first | exact HB.out | apply wA_ | apply wN_ | apply wD_ | refine below_set ?_ GE101.out | refine below_set ?_ GE102.out | refine below_set ?_ GE103.out | refine below_set ?_ GE170.out) | exact HB.out))) : w.heap.size ≤ gb176)); have n8_ := Aside0.mk ((by rw [hg]; exact Nat.ne_of_lt (blk_lt (g := gb101) (o := oB0_ a0_0 a0_1 a0_2 a0_3 a0_4 a0_5 a0_6 a0_7 a0_8 a0_9) (by (with_reducible repeat first | apply bN_ | apply bD_ | apply bA_); exact BK101.out)) : gb101 ≠ gb176)); have n9_ := Aside0.mk ((by rw [hg]; exact Nat.ne_of_gt (blk_lt (g := gb101) (o := oB0_ a0_0 a0_1 a0_2 a0_3 a0_4 a0_5 a0_6 a0_7 a0_8 a0_9) (by (with_reducible repeat first | apply bN_ | apply bD_ | apply bA_); exact BK101.out)) : gb176 ≠ gb101)); have n10_ := Aside0.mk ((by rw [hg]; exact Nat.ne_of_lt (blk_lt (g := gb102) (o := oB1_ a1_0 a1_1 a1_2 a1_3) (by (with_reducible repeat first | apply bN_ | apply bD_ | apply bA_); exact BK102.out)) : gb102 ≠ gb176)); have n11_ := Aside0.mk ((by rw [hg]; exact Nat.ne_of_gt (blk_lt (g := gb102) (o := oB1_ a1_0 a1_1 a1_2 a1_3) (by (with_reducible repeat first | apply bN_ | apply bD_ | apply bA_); exact BK102.out)) : gb176 ≠ gb102)); have n12_ := Aside0.mk ((by rw [hg]; exact Nat.ne_of_lt (blk_lt (g := gb103) (o := oB2_ a2_0 a2_1 a2_2 a2_3) (by (with_reducible repeat first | apply bN_ | apply bD_ | apply bA_); exact BK103.out)) : gb103 ≠ gb176)); have n13_ := Aside0.mk ((by rw [hg]; exact Nat.ne_of_gt (blk_lt (g := gb103) (o := oB2_ a2_0 a2_1 a2_2 a2_3) (by (with_reducible repeat first | apply bN_ | apply bD_ | apply bA_); exact BK103.out)) : gb176 ≠ gb103)); have n14_ := Aside0.mk ((by rw [hg]; exact Nat.ne_of_lt (blk_lt (g := gb170) (o := oB2_ t165 t166 t167 t168) (by (with_reducible repeat first | apply bN_ | apply bD_ | apply bA_); exact BK170.out)) : gb170 ≠ gb176)); have n15_ := Aside0.mk ((by rw [hg]; exact Nat.ne_of_gt (blk_lt (g := gb170) (o := oB2_ t165 t166 t167 t168) (by (with_reducible repeat first | apply bN_ | apply bD_ | apply bA_); exact BK170.out)) : gb176 ≠ gb170)); clear BK101 BK102 BK103 BK170; clear HB; have BK101 := n0_; have BK102 := n1_; have BK103 := n2_; have BK170 := n3_; have HB := n4_; have BK176 := n5_; have GW176 := n6_; have GE176 := n7_; have NB101_176 := n8_; have NB176_101 := n9_; have NB102_176 := n10_; have NB176_102 := n11_; have NB103_176 := n12_; have NB176_103 := n13_; have NB170_176 := n14_; have NB176_170 := n15_; clear n0_ n1_ n2_ n3_ n4_ n5_ n6_ n7_ n8_ n9_ n10_ n11_ n12_ n13_ n14_ n15_; clear hb hbox hg; have hnb143 := NB176_101.out; have hnc143 := NB101_176.out; have hnb144 := NB176_102.out; have hnc144 := NB102_176.out; have hnb145 := NB176_103.out; have hnc145 := NB103_176.out; have hnb146 := NB176_170.out; have hnc146 := NB170_176.out; have hcz147_0 : w142.cell? ⟨gb176, 0, none⟩ = some (.int .i64 0) := (blk_cell BK176.out 0).trans rfl; have hcz147_1 : w142.cell? ⟨gb176, 1, none⟩ = some (.int .i64 0) := (blk_cell BK176.out 1).trans rfl; have hcz147_2 : w142.cell? ⟨gb176, 2, none⟩ = some (.int .i64 0) := (blk_cell BK176.out 2).trans rfl; have hcz147_3 : w142.cell? ⟨gb176, 3, none⟩ = some (.int .u64 0) := (blk_cell BK176.out 3).trans rfl; have hfz147_0 := blk_frozen BK176.out 0; have hfz147_1 := blk_frozen BK176.out 1; have hfz147_2 := blk_frozen BK176.out 2; have hfz147_3 := blk_frozen BK176.out 3))
               have n0_ : Aside0 (((((w142.setCell ⟨gb176, 0, none⟩ (.int .i64 t171)).setCell ⟨gb176, 1, none⟩ (.int .i64 t172)).setCell ⟨gb176, 2, none⟩ (.int .i64 t173)).setCell ⟨gb176, 3, none⟩ (.int .u64 t174)).heap[gb101]? = some (.cells #[.int .i64 a0_0, .int .i64 a0_1, .int .i64 a0_2, .int .i64 a0_3, .int .i64 a0_4, .int .i64 a0_5, .int .i64 a0_6, .int .i64 a0_7, .int .i64 a0_8, .bool a0_9] 23 (0, 0))) := ⟨by (with_reducible repeat first | apply bN_ | apply bD_ | apply bA_); refine blk_far ?_ NB101_176.out _; (with_reducible repeat first | apply bN_ | apply bD_ | apply bA_); refine blk_far ?_ NB101_176.out _; (with_reducible repeat first | apply bN_ | apply bD_ | apply bA_); refine blk_far ?_ NB101_176.out _; (with_reducible repeat first | apply bN_ | apply bD_ | apply bA_); refine blk_far ?_ NB101_176.out _; (with_reducible repeat first | apply bN_ | apply bD_ | apply bA_); exact BK101.out⟩
               have n1_ : Aside0 (((((w142.setCell ⟨gb176, 0, none⟩ (.int .i64 t171)).setCell ⟨gb176, 1, none⟩ (.int .i64 t172)).setCell ⟨gb176, 2, none⟩ (.int .i64 t173)).setCell ⟨gb176, 3, none⟩ (.int .u64 t174)).heap[gb102]? = some (.cells #[.int .i64 a1_0, .string a1_1, .int .i64 a1_2, .int .i64 a1_3] 34 (0, 0))) := ⟨by (with_reducible repeat first | apply bN_ | apply bD_ | apply bA_); refine blk_far ?_ NB102_176.out _; (with_reducible repeat first | apply bN_ | apply bD_ | apply bA_); refine blk_far ?_ NB102_176.out _; (with_reducible repeat first | apply bN_ | apply bD_ | apply bA_); refine blk_far ?_ NB102_176.out _; (with_reducible repeat first | apply bN_ | apply bD_ | apply bA_); refine blk_far ?_ NB102_176.out _; (with_reducible repeat first | apply bN_ | apply bD_ | apply bA_); exact BK102.out⟩
               have n2_ : Aside0 (((((w142.setCell ⟨gb176, 0, none⟩ (.int .i64 t171)).setCell ⟨gb176, 1, none⟩ (.int .i64 t172)).setCell ⟨gb176, 2, none⟩ (.int .i64 t173)).setCell ⟨gb176, 3, none⟩ (.int .u64 t174)).heap[gb103]? = some (.cells #[.int .i64 a2_0, .int .i64 a2_1, .int .i64 a2_2, .int .u64 a2_3] 26 (0, 0))) := ⟨by (with_reducible repeat first | apply bN_ | apply bD_ | apply bA_); refine blk_far ?_ NB103_176.out _; (with_reducible repeat first | apply bN_ | apply bD_ | apply bA_); refine blk_far ?_ NB103_176.out _; (with_reducible repeat first | apply bN_ | apply bD_ | apply bA_); refine blk_far ?_ NB103_176.out _; (with_reducible repeat first | apply bN_ | apply bD_ | apply bA_); refine blk_far ?_ NB103_176.out _; (with_reducible repeat first | apply bN_ | apply bD_ | apply bA_); exact BK103.out⟩
               have n3_ : Aside0 (((((w142.setCell ⟨gb176, 0, none⟩ (.int .i64 t171)).setCell ⟨gb176, 1, none⟩ (.int .i64 t172)).setCell ⟨gb176, 2, none⟩ (.int .i64 t173)).setCell ⟨gb176, 3, none⟩ (.int .u64 t174)).heap[gb170]? = some (.cells #[.int .i64 t165, .int .i64 t166, .int .i64 t167, .int .u64 t168] 26 (0, 0))) := ⟨by (with_reducible repeat first | apply bN_ | apply bD_ | apply bA_); refine blk_far ?_ NB170_176.out _; (with_reducible repeat first | apply bN_ | apply bD_ | apply bA_); refine blk_far ?_ NB170_176.out _; (with_reducible repeat first | apply bN_ | apply bD_ | apply bA_); refine blk_far ?_ NB170_176.out _; (with_reducible repeat first | apply bN_ | apply bD_ | apply bA_); refine blk_far ?_ NB170_176.out _; (with_reducible repeat first | apply bN_ | apply bD_ | apply bA_); exact BK170.out⟩
               have n4_ : Aside0 (((((w142.setCell ⟨gb176, 0, none⟩ (.int .i64 t171)).setCell ⟨gb176, 1, none⟩ (.int .i64 t172)).setCell ⟨gb176, 2, none⟩ (.int .i64 t173)).setCell ⟨gb176, 3, none⟩ (.int .u64 t174)).heap[gb176]? = some (.cells #[.int .i64 t171, .int .i64 t172, .int .i64 t173, .int .u64 t174] 26 (0, 0))) := ⟨by (with_reducible repeat first | apply bN_ | apply bD_ | apply bA_); refine blk_put (cs := #[.int .i64 t171, .int .i64 t172, .int .i64 t173, .int .u64 0]) ?_ 3 _ rfl; (with_reducible repeat first | apply bN_ | apply bD_ | apply bA_); refine blk_put (cs := #[.int .i64 t171, .int .i64 t172, .int .i64 0, .int .u64 0]) ?_ 2 _ rfl; (with_reducible repeat first | apply bN_ | apply bD_ | apply bA_); refine blk_put (cs := #[.int .i64 t171, .int .i64 0, .int .i64 0, .int .u64 0]) ?_ 1 _ rfl; (with_reducible repeat first | apply bN_ | apply bD_ | apply bA_); refine blk_put (cs := #[.int .i64 0, .int .i64 0, .int .i64 0, .int .u64 0]) ?_ 0 _ rfl; (with_reducible repeat first | apply bN_ | apply bD_ | apply bA_); exact BK176.out⟩
               have n5_ : Aside0 (Below w.heap.size w ((((w142.setCell ⟨gb176, 0, none⟩ (.int .i64 t171)).setCell ⟨gb176, 1, none⟩ (.int .i64 t172)).setCell ⟨gb176, 2, none⟩ (.int .i64 t173)).setCell ⟨gb176, 3, none⟩ (.int .u64 t174))) := ⟨by repeat (first | (with_reducible first | exact HB.out | apply wA_ | apply wN_ | apply wD_ | refine below_set ?_ GE101.out | refine below_set ?_ GE102.out | refine below_set ?_ GE103.out | refine below_set ?_ GE170.out | refine below_set ?_ GE176.out) | exact HB.out)⟩
               (try clear BK101)
               (try clear BK102)
               (try clear BK103)
               (try clear BK170)
               (try clear BK176)
               (try clear HB)
               generalize ((((w142.setCell ⟨gb176, 0, none⟩ (.int .i64 t171)).setCell ⟨gb176, 1, none⟩ (.int .i64 t172)).setCell ⟨gb176, 2, none⟩ (.int .i64 t173)).setCell ⟨gb176, 3, none⟩ (.int .u64 t174)) = w148 at n0_ n1_ n2_ n3_ n4_ n5_ ⊢
               have BK101 := n0_
               have BK102 := n1_
               have BK103 := n2_
               have BK170 := n3_
               have BK176 := n4_
               have HB := n5_
               clear n0_ n1_ n2_ n3_ n4_ n5_
               have n0_ := Aside0.mk (blk_drew BK101.out)
               have n1_ := Aside0.mk (blk_drew BK102.out)
               have n2_ := Aside0.mk (blk_drew BK103.out)
               have n3_ := Aside0.mk (blk_drew BK170.out)
               have n4_ := Aside0.mk (blk_drew BK176.out)
               have n5_ := Aside0.mk (below_drew1 HB.out)
               clear BK101 BK102
               clear BK103 BK170
               clear BK176 HB
               have BK101 := n0_
               have BK102 := n1_
               have BK103 := n2_
               have BK170 := n3_
               have BK176 := n4_
               have HB := n5_
               clear n0_ n1_ n2_ n3_ n4_ n5_
               refine start_ (n := 15) (S := fun w' => w'.cell? ⟨gb103, 0, none⟩ = some (.int .i64 a2_0) ∧ w'.cell? ⟨gb103, 1, none⟩ = some (.int .i64 a2_1) ∧ w'.cell? ⟨gb103, 2, none⟩ = some (.int .i64 a2_2) ∧ w'.cell? ⟨gb103, 3, none⟩ = some (.int .u64 a2_3)) (ds := []) #[false, false, false, false, false, false, false, false, false, false, false, false, false, false, false] (by kernel_rfl) rfl rfl ⟨(blk_cell BK103.out 0).trans rfl, (blk_cell BK103.out 1).trans rfl, (blk_cell BK103.out 2).trans rfl, (blk_cell BK103.out 3).trans rfl⟩ (fun hHeld => ?_); refine with_tabW bailiwicklaw14_RecBack.tab22 bailiwicklaw14_RecBack.bits22 (fun HT_ HW_ => ?_)
               generalize w148.drew = w149 at BK101 BK102 BK103 BK170 BK176 HB hHeld ⊢
               refine pure_ (i := 0) (N := some 175) (v := ?_) (a' := ?_) #[true, false, false, false, false, false, false, false, false, false, false, false, false, false, false] rfl rfl (any_of HT_.out (by kernel_rfl)) (fun _ _ _ h => h) (Or.inl ⟨by rfl, ?_⟩) ?_ ?_
               rotate_left
               ·
                intro w'
                go_simp
                with_reducible rfl
               rotate_left
               ·
                simp only [Act.put, List.setIfInBounds_toArray, List.set_cons_zero, List.set_cons_succ, i64_w, i32_w]
                rfl
               refine pure_ (i := 2) (N := some 177) (v := ?_) (a' := ?_) #[true, false, true, false, false, false, false, false, false, false, false, false, false, false, false] rfl rfl (any_of HT_.out (by kernel_rfl)) (fun _ _ _ h => h) (Or.inl ⟨by rfl, ?_⟩) ?_ ?_
               rotate_left
               ·
                intro w'
                go_simp
                with_reducible rfl
               rotate_left
               ·
                simp only [Act.put, List.setIfInBounds_toArray, List.set_cons_zero, List.set_cons_succ, i64_w, i32_w]
                rfl
               refine pure_ (i := 3) (N := some 178) (v := ?_) (a' := ?_) #[true, false, true, true, false, false, false, false, false, false, false, false, false, false, false] rfl rfl (any_of HT_.out (by kernel_rfl)) (fun _ _ _ h => h) (Or.inl ⟨by rfl, ?_⟩) ?_ ?_
               rotate_left
               ·
                intro w'
                go_simp
                with_reducible rfl
               rotate_left
               ·
                simp only [Act.put, List.setIfInBounds_toArray, List.set_cons_zero, List.set_cons_succ, i64_w, i32_w]
                rfl
               refine pure_ (i := 4) (N := some 179) (v := ?_) (a' := ?_) #[true, false, true, true, true, false, false, false, false, false, false, false, false, false, false] rfl rfl (any_of HT_.out (by kernel_rfl)) (fun _ _ _ h => h) (Or.inl ⟨by rfl, ?_⟩) ?_ ?_
               rotate_left
               ·
                intro w'
                go_simp
                with_reducible rfl
               rotate_left
               ·
                simp only [Act.put, List.setIfInBounds_toArray, List.set_cons_zero, List.set_cons_succ, i64_w, i32_w]
                rfl
               refine pure_ (i := 5) (N := some 180) (v := ?_) (a' := ?_) #[true, false, true, true, true, true, false, false, false, false, false, false, false, false, false] rfl rfl (any_of HT_.out (by kernel_rfl)) (fun _ _ _ h => h) (Or.inl ⟨by rfl, ?_⟩) ?_ ?_
               rotate_left
               ·
                intro w'
                go_simp
                with_reducible rfl
               rotate_left
               ·
                simp only [Act.put, List.setIfInBounds_toArray, List.set_cons_zero, List.set_cons_succ, i64_w, i32_w]
                rfl
               refine pure_ (i := 6) (N := some 181) (v := ?_) (a' := ?_) #[true, false, true, true, true, true, true, false, false, false, false, false, false, false, false] rfl rfl (any_of HT_.out (by kernel_rfl)) (fun _ _ _ h => h) (Or.inl ⟨by rfl, ?_⟩) ?_ ?_
               rotate_left
               ·
                intro w'
                go_simp
                with_reducible rfl
               rotate_left
               ·
                simp only [Act.put, List.setIfInBounds_toArray, List.set_cons_zero, List.set_cons_succ, i64_w, i32_w]
                rfl
               refine pure_ (i := 7) (N := some 182) (v := ?_) (a' := ?_) #[true, false, true, true, true, true, true, true, false, false, false, false, false, false, false] rfl rfl (any_of HT_.out (by kernel_rfl)) (fun _ _ _ h => h) (Or.inl ⟨by rfl, ?_⟩) ?_ ?_
               rotate_left
               ·
                intro w'
                go_simp
                with_reducible rfl
               rotate_left
               ·
                simp only [Act.put, List.setIfInBounds_toArray, List.set_cons_zero, List.set_cons_succ, i64_w, i32_w]
                rfl
               refine take_ (i := 1) (N := some 176) (v := ?_) (a' := ?_) #[true, true, true, true, true, true, true, true, false, false, false, false, false, false, false] rfl rfl (take_ofW HT_.out HW_.out (by kernel_rfl)) (fun _ _ _ h => h) (Or.inl ⟨by rfl, ?_⟩) hHeld ?_ ?_
               rotate_left
               ·
                rintro w' ⟨s0, s1, s2, s3⟩
                go_simp
                with_reducible rfl
               rotate_left
               ·
                simp only [Act.put, List.setIfInBounds_toArray, List.set_cons_zero, List.set_cons_succ, i64_w, i32_w]
                rfl
               refine join_ (σ := Nat) 2 #[true, true, true, true, true, true, true, true, true, true, true, true, true, false, false] (fun s_ => [(183, .tuple #[.agg #[.int .i64 t177, .int .i64 t178, .int .i64 t179, .int .u64 t180], .int .i64 t181]), (30, .pointer (some ⟨s_, 0, none⟩)), (174, .tuple #[.agg #[.int .i64 t177, .int .i64 t178, .int .i64 t179, .int .u64 t180], .int .i64 t181]), (184, .agg #[.int .i64 t177, .int .i64 t178, .int .i64 t179, .int .u64 t180]), (185, .int .i64 t181)]) (fun s_ w' => (w'.cell? ⟨gb103, 0, none⟩ = some (.int .i64 a2_0) ∧ w'.cell? ⟨gb103, 1, none⟩ = some (.int .i64 a2_1) ∧ w'.cell? ⟨gb103, 2, none⟩ = some (.int .i64 a2_2) ∧ w'.cell? ⟨gb103, 3, none⟩ = some (.int .u64 a2_3)) ∧ (w'.heap[gb101]? = some (.cells #[.int .i64 a0_0, .int .i64 a0_1, .int .i64 a0_2, .int .i64 a0_3, .int .i64 a0_4, .int .i64 a0_5, .int .i64 a0_6, .int .i64 a0_7, .int .i64 a0_8, .bool a0_9] 23 (0, 0))) ∧ (w'.heap[gb102]? = some (.cells #[.int .i64 a1_0, .string a1_1, .int .i64 a1_2, .int .i64 a1_3] 34 (0, 0))) ∧ (w'.heap[gb103]? = some (.cells #[.int .i64 a2_0, .int .i64 a2_1, .int .i64 a2_2, .int .u64 a2_3] 26 (0, 0))) ∧ (w'.heap[gb170]? = some (.cells #[.int .i64 t165, .int .i64 t166, .int .i64 t167, .int .u64 t168] 26 (0, 0))) ∧ (w'.heap[gb176]? = some (.cells #[.int .i64 t171, .int .i64 t172, .int .i64 t173, .int .u64 t174] 26 (0, 0))) ∧ (w'.heap[s_]? = some (.cells #[.int .i64 0, .int .i64 0, .int .i64 0, .int .u64 0] 26 (0, 0))) ∧ (w.heap.size ≤ s_) ∧ (w.heap.size ≤ s_) ∧ (gb101 ≠ s_) ∧ (s_ ≠ gb101) ∧ (gb102 ≠ s_) ∧ (s_ ≠ gb102) ∧ (gb103 ≠ s_) ∧ (s_ ≠ gb103) ∧ (gb170 ≠ s_) ∧ (s_ ≠ gb170) ∧ (gb176 ≠ s_) ∧ (s_ ≠ gb176) ∧ (Below w.heap.size w w')) ?_ ?_
               rotate_left
               ·
                intro hCont
                refine two_ (i := 8) (j := 12) (Ni := some 183) (Nj := some 30) #[true, true, true, true, true, true, true, true, true, false, false, false, false, false, false] #[true, true, true, true, true, true, true, true, false, false, false, false, true, false, false] rfl rfl rfl rfl (two_of HT_.out (by kernel_rfl)) (by decide) (by decide) (fun K hK => ?_) (fun K hK => ?_)
                ·
                 skip
                 refine goes_ Try.func16 (by kernel_rfl) rfl #[.int .i64 a2_0, .string (t163.extract 0 ((ji120) : Int).toNat)] (by rfl) rfl rfl (by (try simp only [List.map_toArray, List.map_cons, List.map_nil]); first | done | (simp only [hji120]; rfl) | rfl | (simp only [List.length_drop, List.length_take]; rfl)) ?_
                 with_reducible refine (G.xTakeSlot.calls a2_0 (t163.extract 0 ((ji120) : Int).toNat) t177 t178 t179 t180 t181 _ A123.out).mono ?_
                 rintro e w150 ⟨rfl, hb⟩
                 refine ⟨_, rfl, ?_⟩
                 have n0_ := Aside0.mk (blk_below (g := gb101) (o := oB0_ a0_0 a0_1 a0_2 a0_3 a0_4 a0_5 a0_6 a0_7 a0_8 a0_9) (by (with_reducible repeat first | apply bN_ | apply bD_ | apply bA_); exact BK101.out) hb)
                 have n1_ := Aside0.mk (blk_below (g := gb102) (o := oB1_ a1_0 a1_1 a1_2 a1_3) (by (with_reducible repeat first | apply bN_ | apply bD_ | apply bA_); exact BK102.out) hb)
                 have n2_ := Aside0.mk (blk_below (g := gb103) (o := oB2_ a2_0 a2_1 a2_2 a2_3) (by (with_reducible repeat first | apply bN_ | apply bD_ | apply bA_); exact BK103.out) hb)
                 have n3_ := Aside0.mk (blk_below (g := gb170) (o := oB2_ t165 t166 t167 t168) (by (with_reducible repeat first | apply bN_ | apply bD_ | apply bA_); exact BK170.out) hb)
                 have n4_ := Aside0.mk (blk_below (g := gb176) (o := oB2_ t171 t172 t173 t174) (by (with_reducible repeat first | apply bN_ | apply bD_ | apply bA_); exact BK176.out) hb)
                 have n5_ := Aside0.mk (below_step (by repeat (first | (with_reducible first | exact HB.out | apply wA_ | apply wN_ | apply wD_ | refine below_set ?_ GE101.out | refine below_set ?_ GE102.out | refine below_set ?_ GE103.out | refine below_set ?_ GE170.out | refine below_set ?_ GE176.out) | exact HB.out)) hb)
                 clear BK101 BK102
                 clear BK103 BK170
                 clear BK176 HB
                 have BK101 := n0_
                 have BK102 := n1_
                 have BK103 := n2_
                 have BK170 := n3_
                 have BK176 := n4_
                 have HB := n5_
                 clear n0_ n1_ n2_ n3_ n4_ n5_
                 (try clear hb)
                 (try clear hb2)
                 (try clear hk)
                 (try clear hi)
                 refine hK.out _ _ ⟨(blk_cell BK103.out 0).trans rfl, (blk_cell BK103.out 1).trans rfl, (blk_cell BK103.out 2).trans rfl, (blk_cell BK103.out 3).trans rfl⟩ (fun hHeld => ?_)
                 clear hK K
                 refine norm_ (a' := ?_) ?_ ?_
                 rotate_left
                 ·
                  show Act.put _ (some 183) _ = _
                  simp only [Act.put, List.setIfInBounds_toArray, List.set_cons_zero, List.set_cons_succ, i64_w, i32_w]
                  rfl
                 refine pure_ (i := 9) (N := some 174) (v := ?_) (a' := ?_) #[true, true, true, true, true, true, true, true, true, true, false, false, false, false, false] rfl rfl (any_of HT_.out (by kernel_rfl)) (fun _ _ _ h => h) (Or.inl ⟨by rfl, ?_⟩) ?_ ?_
                 rotate_left
                 ·
                  intro w'
                  go_simp
                  with_reducible rfl
                 rotate_left
                 ·
                  simp only [Act.put, List.setIfInBounds_toArray, List.set_cons_zero, List.set_cons_succ, i64_w, i32_w]
                  rfl
                 refine pure_ (i := 10) (N := some 184) (v := ?_) (a' := ?_) #[true, true, true, true, true, true, true, true, true, true, true, false, false, false, false] rfl rfl (any_of HT_.out (by kernel_rfl)) (fun _ _ _ h => h) (Or.inl ⟨by rfl, ?_⟩) ?_ ?_
                 rotate_left
                 ·
                  intro w'
                  go_simp
                  with_reducible rfl
                 rotate_left
                 ·
                  simp only [Act.put, List.setIfInBounds_toArray, List.set_cons_zero, List.set_cons_succ, i64_w, i32_w]
                  rfl
                 refine pure_ (i := 11) (N := some 185) (v := ?_) (a' := ?_) #[true, true, true, true, true, true, true, true, true, true, true, true, false, false, false] rfl rfl (any_of HT_.out (by kernel_rfl)) (fun _ _ _ h => h) (Or.inl ⟨by rfl, ?_⟩) ?_ ?_
                 rotate_left
                 ·
                  intro w'
                  go_simp
                  with_reducible rfl
                 rotate_left
                 ·
                  simp only [Act.put, List.setIfInBounds_toArray, List.set_cons_zero, List.set_cons_succ, i64_w, i32_w]
                  rfl
                 refine one_ (i := 12) (N := some 30) #[true, true, true, true, true, true, true, true, true, true, true, true, true, false, false] rfl rfl (one_of HT_.out (by kernel_rfl)) (by decide) (fun K hK => ?_)
                 refine box_step ?hg (N := 30) ?hd (cs := #[.int .i64 0, .int .i64 0, .int .i64 0, .int .u64 0]) (t := 26) ?hr ?_; (case hd => rfl); (case hg => rfl); (case hr => first | (go_simp; done) | (go_simp; rfl))
                 intro gb182 hg w151 hbox hb
                 have n0_ := Aside0.mk (blk_below (g := gb101) (o := oB0_ a0_0 a0_1 a0_2 a0_3 a0_4 a0_5 a0_6 a0_7 a0_8 a0_9) (by (with_reducible repeat first | apply bN_ | apply bD_ | apply bA_); exact BK101.out) hb)
                 have n1_ := Aside0.mk (blk_below (g := gb102) (o := oB1_ a1_0 a1_1 a1_2 a1_3) (by (with_reducible repeat first | apply bN_ | apply bD_ | apply bA_); exact BK102.out) hb)
                 have n2_ := Aside0.mk (blk_below (g := gb103) (o := oB2_ a2_0 a2_1 a2_2 a2_3) (by (with_reducible repeat first | apply bN_ | apply bD_ | apply bA_); exact BK103.out) hb)
                 have n3_ := Aside0.mk (blk_below (g := gb170) (o := oB2_ t165 t166 t167 t168) (by (with_reducible repeat first | apply bN_ | apply bD_ | apply bA_); exact BK170.out) hb)
                 have n4_ := Aside0.mk (blk_below (g := gb176) (o := oB2_ t171 t172 t173 t174) (by (with_reducible repeat first | apply bN_ | apply bD_ | apply bA_); exact BK176.out) hb)
                 have n5_ := Aside0.mk (below_step (by repeat (first | (with_reducible first | exact HB.out | apply wA_ | apply wN_ | apply wD_ | refine below_set ?_ GE101.out | refine below_set ?_ GE102.out | refine below_set ?_ GE103.out | refine below_set ?_ GE170.out | refine below_set ?_ GE176.out) | exact HB.out)) hb)
                 have n6_ := Aside0.mk (hbox)
                 have n7_ := Aside0.mk ((by rw [hg]; exact (below_size (by repeat (first | (with_reducible first | exact HB.out | apply wA_ | apply wN_ | apply wD_ | refine below_set ?_ GE101.out | refine below_set ?_ GE102.out | refine below_set ?_ GE103.out | refine below_set ?_ GE170.out | refine below_set ?_ GE176.out) | exact HB.out))) : w.heap.size ≤ gb182))
                 have n8_ := Aside0.mk ((by rw [hg]; exact (below_size (by repeat (first | (with_reducible first | exact HB.out | apply wA_ | apply wN_ | apply wD_ | refine below_set ?_ GE101.out | refine below_set ?_ GE102.out | refine below_set ?_ GE103.out | refine below_set ?_ GE170.out | refine below_set ?_ GE176.out) | exact HB.out))) : w.heap.size ≤ gb182))
                 have n9_ := Aside0.mk ((by rw [hg]; exact Nat.ne_of_lt (blk_lt (g := gb101) (o := oB0_ a0_0 a0_1 a0_2 a0_3 a0_4 a0_5 a0_6 a0_7 a0_8 a0_9) (by (with_reducible repeat first | apply bN_ | apply bD_ | apply bA_); exact BK101.out)) : gb101 ≠ gb182))
                 have n10_ := Aside0.mk ((by rw [hg]; exact Nat.ne_of_gt (blk_lt (g := gb101) (o := oB0_ a0_0 a0_1 a0_2 a0_3 a0_4 a0_5 a0_6 a0_7 a0_8 a0_9) (by (with_reducible repeat first | apply bN_ | apply bD_ | apply bA_); exact BK101.out)) : gb182 ≠ gb101))
                 have n11_ := Aside0.mk ((by rw [hg]; exact Nat.ne_of_lt (blk_lt (g := gb102) (o := oB1_ a1_0 a1_1 a1_2 a1_3) (by (with_reducible repeat first | apply bN_ | apply bD_ | apply bA_); exact BK102.out)) : gb102 ≠ gb182))
                 have n12_ := Aside0.mk ((by rw [hg]; exact Nat.ne_of_gt (blk_lt (g := gb102) (o := oB1_ a1_0 a1_1 a1_2 a1_3) (by (with_reducible repeat first | apply bN_ | apply bD_ | apply bA_); exact BK102.out)) : gb182 ≠ gb102))
                 have n13_ := Aside0.mk ((by rw [hg]; exact Nat.ne_of_lt (blk_lt (g := gb103) (o := oB2_ a2_0 a2_1 a2_2 a2_3) (by (with_reducible repeat first | apply bN_ | apply bD_ | apply bA_); exact BK103.out)) : gb103 ≠ gb182))
                 have n14_ := Aside0.mk ((by rw [hg]; exact Nat.ne_of_gt (blk_lt (g := gb103) (o := oB2_ a2_0 a2_1 a2_2 a2_3) (by (with_reducible repeat first | apply bN_ | apply bD_ | apply bA_); exact BK103.out)) : gb182 ≠ gb103))
                 have n15_ := Aside0.mk ((by rw [hg]; exact Nat.ne_of_lt (blk_lt (g := gb170) (o := oB2_ t165 t166 t167 t168) (by (with_reducible repeat first | apply bN_ | apply bD_ | apply bA_); exact BK170.out)) : gb170 ≠ gb182))
                 have n16_ := Aside0.mk ((by rw [hg]; exact Nat.ne_of_gt (blk_lt (g := gb170) (o := oB2_ t165 t166 t167 t168) (by (with_reducible repeat first | apply bN_ | apply bD_ | apply bA_); exact BK170.out)) : gb182 ≠ gb170))
                 have n17_ := Aside0.mk ((by rw [hg]; exact Nat.ne_of_lt (blk_lt (g := gb176) (o := oB2_ t171 t172 t173 t174) (by (with_reducible repeat first | apply bN_ | apply bD_ | apply bA_); exact BK176.out)) : gb176 ≠ gb182))
                 have n18_ := Aside0.mk ((by rw [hg]; exact Nat.ne_of_gt (blk_lt (g := gb176) (o := oB2_ t171 t172 t173 t174) (by (with_reducible repeat first | apply bN_ | apply bD_ | apply bA_); exact BK176.out)) : gb182 ≠ gb176))
                 clear BK101 BK102
                 clear BK103 BK170
                 clear BK176 HB
                 have BK101 := n0_
                 have BK102 := n1_
                 have BK103 := n2_
                 have BK170 := n3_
                 have BK176 := n4_
                 have HB := n5_
                 have BK182 := n6_
                 have GW182 := n7_
                 have GE182 := n8_
                 have NB101_182 := n9_
                 have NB182_101 := n10_
                 have NB102_182 := n11_
                 have NB182_102 := n12_
                 have NB103_182 := n13_
                 have NB182_103 := n14_
                 have NB170_182 := n15_
                 have NB182_170 := n16_
                 have NB176_182 := n17_
                 have NB182_176 := n18_
                 clear n0_ n1_ n2_ n3_ n4_ n5_ n6_ n7_ n8_ n9_ n10_ n11_ n12_ n13_ n14_ n15_ n16_ n17_ n18_
                 clear hb hbox hg
                 refine hK.out _ _ ⟨(blk_cell BK103.out 0).trans rfl, (blk_cell BK103.out 1).trans rfl, (blk_cell BK103.out 2).trans rfl, (blk_cell BK103.out 3).trans rfl⟩ (fun hHeld => ?_)
                 clear hK K
                 refine norm_ (a' := ?_) ?_ ?_
                 rotate_left
                 ·
                  show Act.put _ (some 30) _ = _
                  simp only [Act.put, List.setIfInBounds_toArray, List.set_cons_zero, List.set_cons_succ, i64_w, i32_w]
                  rfl
                 exact norm_ (by simp only [putAll, Act.put, List.setIfInBounds_toArray, List.set_cons_zero, List.set_cons_succ]) (hCont (gb182) _ ⟨hHeld, (by (with_reducible repeat first | apply bN_ | apply bD_ | apply bA_); exact BK101.out), (by (with_reducible repeat first | apply bN_ | apply bD_ | apply bA_); exact BK102.out), (by (with_reducible repeat first | apply bN_ | apply bD_ | apply bA_); exact BK103.out), (by (with_reducible repeat first | apply bN_ | apply bD_ | apply bA_); exact BK170.out), (by (with_reducible repeat first | apply bN_ | apply bD_ | apply bA_); exact BK176.out), (by (with_reducible repeat first | apply bN_ | apply bD_ | apply bA_); exact BK182.out), GW182.out, GE182.out, NB101_182.out, NB182_101.out, NB102_182.out, NB182_102.out, NB103_182.out, NB182_103.out, NB170_182.out, NB182_170.out, NB176_182.out, NB182_176.out, (by repeat (first | (with_reducible first | exact HB.out | apply wA_ | apply wN_ | apply wD_ | refine below_set ?_ GE101.out | refine below_set ?_ GE102.out | refine below_set ?_ GE103.out | refine below_set ?_ GE170.out | refine below_set ?_ GE176.out | refine below_set ?_ GE182.out) | exact HB.out))⟩)
                ·
                 skip
                 refine box_step ?hg (N := 30) ?hd (cs := #[.int .i64 0, .int .i64 0, .int .i64 0, .int .u64 0]) (t := 26) ?hr ?_; (case hd => rfl); (case hg => rfl); (case hr => first | (go_simp; done) | (go_simp; rfl))
                 intro gb182 hg w150 hbox hb
                 have n0_ := Aside0.mk (blk_below (g := gb101) (o := oB0_ a0_0 a0_1 a0_2 a0_3 a0_4 a0_5 a0_6 a0_7 a0_8 a0_9) (by (with_reducible repeat first | apply bN_ | apply bD_ | apply bA_); exact BK101.out) hb)
                 have n1_ := Aside0.mk (blk_below (g := gb102) (o := oB1_ a1_0 a1_1 a1_2 a1_3) (by (with_reducible repeat first | apply bN_ | apply bD_ | apply bA_); exact BK102.out) hb)
                 have n2_ := Aside0.mk (blk_below (g := gb103) (o := oB2_ a2_0 a2_1 a2_2 a2_3) (by (with_reducible repeat first | apply bN_ | apply bD_ | apply bA_); exact BK103.out) hb)
                 have n3_ := Aside0.mk (blk_below (g := gb170) (o := oB2_ t165 t166 t167 t168) (by (with_reducible repeat first | apply bN_ | apply bD_ | apply bA_); exact BK170.out) hb)
                 have n4_ := Aside0.mk (blk_below (g := gb176) (o := oB2_ t171 t172 t173 t174) (by (with_reducible repeat first | apply bN_ | apply bD_ | apply bA_); exact BK176.out) hb)
                 have n5_ := Aside0.mk (below_step (by repeat (first | (with_reducible first | exact HB.out | apply wA_ | apply wN_ | apply wD_ | refine below_set ?_ GE101.out | refine below_set ?_ GE102.out | refine below_set ?_ GE103.out | refine below_set ?_ GE170.out | refine below_set ?_ GE176.out) | exact HB.out)) hb)
                 have n6_ := Aside0.mk (hbox)
                 have n7_ := Aside0.mk ((by rw [hg]; exact (below_size (by repeat (first | (with_reducible first | exact HB.out | apply wA_ | apply wN_ | apply wD_ | refine below_set ?_ GE101.out | refine below_set ?_ GE102.out | refine below_set ?_ GE103.out | refine below_set ?_ GE170.out | refine below_set ?_ GE176.out) | exact HB.out))) : w.heap.size ≤ gb182))
                 have n8_ := Aside0.mk ((by rw [hg]; exact (below_size (by repeat (first | (with_reducible first | exact HB.out | apply wA_ | apply wN_ | apply wD_ | refine below_set ?_ GE101.out | refine below_set ?_ GE102.out | refine below_set ?_ GE103.out | refine below_set ?_ GE170.out | refine below_set ?_ GE176.out) | exact HB.out))) : w.heap.size ≤ gb182))
                 have n9_ := Aside0.mk ((by rw [hg]; exact Nat.ne_of_lt (blk_lt (g := gb101) (o := oB0_ a0_0 a0_1 a0_2 a0_3 a0_4 a0_5 a0_6 a0_7 a0_8 a0_9) (by (with_reducible repeat first | apply bN_ | apply bD_ | apply bA_); exact BK101.out)) : gb101 ≠ gb182))
                 have n10_ := Aside0.mk ((by rw [hg]; exact Nat.ne_of_gt (blk_lt (g := gb101) (o := oB0_ a0_0 a0_1 a0_2 a0_3 a0_4 a0_5 a0_6 a0_7 a0_8 a0_9) (by (with_reducible repeat first | apply bN_ | apply bD_ | apply bA_); exact BK101.out)) : gb182 ≠ gb101))
                 have n11_ := Aside0.mk ((by rw [hg]; exact Nat.ne_of_lt (blk_lt (g := gb102) (o := oB1_ a1_0 a1_1 a1_2 a1_3) (by (with_reducible repeat first | apply bN_ | apply bD_ | apply bA_); exact BK102.out)) : gb102 ≠ gb182))
                 have n12_ := Aside0.mk ((by rw [hg]; exact Nat.ne_of_gt (blk_lt (g := gb102) (o := oB1_ a1_0 a1_1 a1_2 a1_3) (by (with_reducible repeat first | apply bN_ | apply bD_ | apply bA_); exact BK102.out)) : gb182 ≠ gb102))
                 have n13_ := Aside0.mk ((by rw [hg]; exact Nat.ne_of_lt (blk_lt (g := gb103) (o := oB2_ a2_0 a2_1 a2_2 a2_3) (by (with_reducible repeat first | apply bN_ | apply bD_ | apply bA_); exact BK103.out)) : gb103 ≠ gb182))
                 have n14_ := Aside0.mk ((by rw [hg]; exact Nat.ne_of_gt (blk_lt (g := gb103) (o := oB2_ a2_0 a2_1 a2_2 a2_3) (by (with_reducible repeat first | apply bN_ | apply bD_ | apply bA_); exact BK103.out)) : gb182 ≠ gb103))
                 have n15_ := Aside0.mk ((by rw [hg]; exact Nat.ne_of_lt (blk_lt (g := gb170) (o := oB2_ t165 t166 t167 t168) (by (with_reducible repeat first | apply bN_ | apply bD_ | apply bA_); exact BK170.out)) : gb170 ≠ gb182))
                 have n16_ := Aside0.mk ((by rw [hg]; exact Nat.ne_of_gt (blk_lt (g := gb170) (o := oB2_ t165 t166 t167 t168) (by (with_reducible repeat first | apply bN_ | apply bD_ | apply bA_); exact BK170.out)) : gb182 ≠ gb170))
                 have n17_ := Aside0.mk ((by rw [hg]; exact Nat.ne_of_lt (blk_lt (g := gb176) (o := oB2_ t171 t172 t173 t174) (by (with_reducible repeat first | apply bN_ | apply bD_ | apply bA_); exact BK176.out)) : gb176 ≠ gb182))
                 have n18_ := Aside0.mk ((by rw [hg]; exact Nat.ne_of_gt (blk_lt (g := gb176) (o := oB2_ t171 t172 t173 t174) (by (with_reducible repeat first | apply bN_ | apply bD_ | apply bA_); exact BK176.out)) : gb182 ≠ gb176))
                 clear BK101 BK102
                 clear BK103 BK170
                 clear BK176 HB
                 have BK101 := n0_
                 have BK102 := n1_
                 have BK103 := n2_
                 have BK170 := n3_
                 have BK176 := n4_
                 have HB := n5_
                 have BK182 := n6_
                 have GW182 := n7_
                 have GE182 := n8_
                 have NB101_182 := n9_
                 have NB182_101 := n10_
                 have NB102_182 := n11_
                 have NB182_102 := n12_
                 have NB103_182 := n13_
                 have NB182_103 := n14_
                 have NB170_182 := n15_
                 have NB182_170 := n16_
                 have NB176_182 := n17_
                 have NB182_176 := n18_
                 clear n0_ n1_ n2_ n3_ n4_ n5_ n6_ n7_ n8_ n9_ n10_ n11_ n12_ n13_ n14_ n15_ n16_ n17_ n18_
                 clear hb hbox hg
                 refine hK.out _ _ ⟨(blk_cell BK103.out 0).trans rfl, (blk_cell BK103.out 1).trans rfl, (blk_cell BK103.out 2).trans rfl, (blk_cell BK103.out 3).trans rfl⟩ (fun hHeld => ?_)
                 clear hK K
                 refine norm_ (a' := ?_) ?_ ?_
                 rotate_left
                 ·
                  show Act.put _ (some 30) _ = _
                  simp only [Act.put, List.setIfInBounds_toArray, List.set_cons_zero, List.set_cons_succ, i64_w, i32_w]
                  rfl
                 refine one_ (i := 8) (N := some 183) #[true, true, true, true, true, true, true, true, true, false, false, false, true, false, false] rfl rfl (one_of HT_.out (by kernel_rfl)) (by decide) (fun K hK => ?_)
                 refine goes_ Try.func16 (by kernel_rfl) rfl #[.int .i64 a2_0, .string (t163.extract 0 ((ji120) : Int).toNat)] (by rfl) rfl rfl (by (try simp only [List.map_toArray, List.map_cons, List.map_nil]); first | done | (simp only [hji120]; rfl) | rfl | (simp only [List.length_drop, List.length_take]; rfl)) ?_
                 with_reducible refine (G.xTakeSlot.calls a2_0 (t163.extract 0 ((ji120) : Int).toNat) t177 t178 t179 t180 t181 _ A123.out).mono ?_
                 rintro e w151 ⟨rfl, hb⟩
                 refine ⟨_, rfl, ?_⟩
                 have n0_ := Aside0.mk (blk_below (g := gb101) (o := oB0_ a0_0 a0_1 a0_2 a0_3 a0_4 a0_5 a0_6 a0_7 a0_8 a0_9) (by (with_reducible repeat first | apply bN_ | apply bD_ | apply bA_); exact BK101.out) hb)
                 have n1_ := Aside0.mk (blk_below (g := gb102) (o := oB1_ a1_0 a1_1 a1_2 a1_3) (by (with_reducible repeat first | apply bN_ | apply bD_ | apply bA_); exact BK102.out) hb)
                 have n2_ := Aside0.mk (blk_below (g := gb103) (o := oB2_ a2_0 a2_1 a2_2 a2_3) (by (with_reducible repeat first | apply bN_ | apply bD_ | apply bA_); exact BK103.out) hb)
                 have n3_ := Aside0.mk (blk_below (g := gb170) (o := oB2_ t165 t166 t167 t168) (by (with_reducible repeat first | apply bN_ | apply bD_ | apply bA_); exact BK170.out) hb)
                 have n4_ := Aside0.mk (blk_below (g := gb176) (o := oB2_ t171 t172 t173 t174) (by (with_reducible repeat first | apply bN_ | apply bD_ | apply bA_); exact BK176.out) hb)
                 have n5_ := Aside0.mk (blk_below (g := gb182) (o := oB2_ 0 0 0 0) (by (with_reducible repeat first | apply bN_ | apply bD_ | apply bA_); exact BK182.out) hb)
                 have n6_ := Aside0.mk (below_step (by repeat (first | (with_reducible first | exact HB.out | apply wA_ | apply wN_ | apply wD_ | refine below_set ?_ GE101.out | refine below_set ?_ GE102.out | refine below_set ?_ GE103.out | refine below_set ?_ GE170.out | refine below_set ?_ GE176.out | refine below_set ?_ GE182.out) | exact HB.out)) hb)
                 clear BK101 BK102
                 clear BK103 BK170
                 clear BK176 BK182 HB
                 have BK101 := n0_
                 have BK102 := n1_
                 have BK103 := n2_
                 have BK170 := n3_
                 have BK176 := n4_
                 have BK182 := n5_
                 have HB := n6_
                 clear n0_ n1_ n2_ n3_ n4_ n5_ n6_
                 (try clear hb)
                 (try clear hb2)
                 (try clear hk)
                 (try clear hi)
                 refine hK.out _ _ ⟨(blk_cell BK103.out 0).trans rfl, (blk_cell BK103.out 1).trans rfl, (blk_cell BK103.out 2).trans rfl, (blk_cell BK103.out 3).trans rfl⟩ (fun hHeld => ?_)
                 clear hK K
                 refine norm_ (a' := ?_) ?_ ?_
                 rotate_left
                 ·
                  show Act.put _ (some 183) _ = _
                  simp only [Act.put, List.setIfInBounds_toArray, List.set_cons_zero, List.set_cons_succ, i64_w, i32_w]
                  rfl
                 refine pure_ (i := 9) (N := some 174) (v := ?_) (a' := ?_) #[true, true, true, true, true, true, true, true, true, true, false, false, true, false, false] rfl rfl (any_of HT_.out (by kernel_rfl)) (fun _ _ _ h => h) (Or.inl ⟨by rfl, ?_⟩) ?_ ?_
                 rotate_left
                 ·
                  intro w'
                  go_simp
                  with_reducible rfl
                 rotate_left
                 ·
                  simp only [Act.put, List.setIfInBounds_toArray, List.set_cons_zero, List.set_cons_succ, i64_w, i32_w]
                  rfl
                 refine pure_ (i := 10) (N := some 184) (v := ?_) (a' := ?_) #[true, true, true, true, true, true, true, true, true, true, true, false, true, false, false] rfl rfl (any_of HT_.out (by kernel_rfl)) (fun _ _ _ h => h) (Or.inl ⟨by rfl, ?_⟩) ?_ ?_
                 rotate_left
                 ·
                  intro w'
                  go_simp
                  with_reducible rfl
                 rotate_left
                 ·
                  simp only [Act.put, List.setIfInBounds_toArray, List.set_cons_zero, List.set_cons_succ, i64_w, i32_w]
                  rfl
                 refine pure_ (i := 11) (N := some 185) (v := ?_) (a' := ?_) #[true, true, true, true, true, true, true, true, true, true, true, true, true, false, false] rfl rfl (any_of HT_.out (by kernel_rfl)) (fun _ _ _ h => h) (Or.inl ⟨by rfl, ?_⟩) ?_ ?_
                 rotate_left
                 ·
                  intro w'
                  go_simp
                  with_reducible rfl
                 rotate_left
                 ·
                  simp only [Act.put, List.setIfInBounds_toArray, List.set_cons_zero, List.set_cons_succ, i64_w, i32_w]
                  rfl
                 exact norm_ (by simp only [putAll, Act.put, List.setIfInBounds_toArray, List.set_cons_zero, List.set_cons_succ]) (hCont (gb182) _ ⟨hHeld, (by (with_reducible repeat first | apply bN_ | apply bD_ | apply bA_); exact BK101.out), (by (with_reducible repeat first | apply bN_ | apply bD_ | apply bA_); exact BK102.out), (by (with_reducible repeat first | apply bN_ | apply bD_ | apply bA_); exact BK103.out), (by (with_reducible repeat first | apply bN_ | apply bD_ | apply bA_); exact BK170.out), (by (with_reducible repeat first | apply bN_ | apply bD_ | apply bA_); exact BK176.out), (by (with_reducible repeat first | apply bN_ | apply bD_ | apply bA_); exact BK182.out), GW182.out, GE182.out, NB101_182.out, NB182_101.out, NB102_182.out, NB182_102.out, NB103_182.out, NB182_103.out, NB170_182.out, NB182_170.out, NB176_182.out, NB182_176.out, (by repeat (first | (with_reducible first | exact HB.out | apply wA_ | apply wN_ | apply wD_ | refine below_set ?_ GE101.out | refine below_set ?_ GE102.out | refine below_set ?_ GE103.out | refine below_set ?_ GE170.out | refine below_set ?_ GE176.out | refine below_set ?_ GE182.out) | exact HB.out))⟩)
               rintro gb182 w152 ⟨hS_, h0_, h1_, h2_, h3_, h4_, h5_, h6_, h7_, h8_, h9_, h10_, h11_, h12_, h13_, h14_, h15_, h16_, h17_, h18_⟩
               have n0_ : Aside0 (w152.heap[gb101]? = some (.cells #[.int .i64 a0_0, .int .i64 a0_1, .int .i64 a0_2, .int .i64 a0_3, .int .i64 a0_4, .int .i64 a0_5, .int .i64 a0_6, .int .i64 a0_7, .int .i64 a0_8, .bool a0_9] 23 (0, 0))) := ⟨h0_⟩
               have n1_ : Aside0 (w152.heap[gb102]? = some (.cells #[.int .i64 a1_0, .string a1_1, .int .i64 a1_2, .int .i64 a1_3] 34 (0, 0))) := ⟨h1_⟩
               have n2_ : Aside0 (w152.heap[gb103]? = some (.cells #[.int .i64 a2_0, .int .i64 a2_1, .int .i64 a2_2, .int .u64 a2_3] 26 (0, 0))) := ⟨h2_⟩
               have n3_ : Aside0 (w152.heap[gb170]? = some (.cells #[.int .i64 t165, .int .i64 t166, .int .i64 t167, .int .u64 t168] 26 (0, 0))) := ⟨h3_⟩
               have n4_ : Aside0 (w152.heap[gb176]? = some (.cells #[.int .i64 t171, .int .i64 t172, .int .i64 t173, .int .u64 t174] 26 (0, 0))) := ⟨h4_⟩
               have n5_ : Aside0 (w152.heap[gb182]? = some (.cells #[.int .i64 0, .int .i64 0, .int .i64 0, .int .u64 0] 26 (0, 0))) := ⟨h5_⟩
               have n6_ : Aside0 (w.heap.size ≤ gb182) := ⟨h6_⟩
               have n7_ : Aside0 (w.heap.size ≤ gb182) := ⟨h7_⟩
               have n8_ : Aside0 (gb101 ≠ gb182) := ⟨h8_⟩
               have n9_ : Aside0 (gb182 ≠ gb101) := ⟨h9_⟩
               have n10_ : Aside0 (gb102 ≠ gb182) := ⟨h10_⟩
               have n11_ : Aside0 (gb182 ≠ gb102) := ⟨h11_⟩
               have n12_ : Aside0 (gb103 ≠ gb182) := ⟨h12_⟩
               have n13_ : Aside0 (gb182 ≠ gb103) := ⟨h13_⟩
               have n14_ : Aside0 (gb170 ≠ gb182) := ⟨h14_⟩
               have n15_ : Aside0 (gb182 ≠ gb170) := ⟨h15_⟩
               have n16_ : Aside0 (gb176 ≠ gb182) := ⟨h16_⟩
               have n17_ : Aside0 (gb182 ≠ gb176) := ⟨h17_⟩
               have n18_ : Aside0 (Below w.heap.size w w152) := ⟨h18_⟩
               clear BK101 BK102
               clear BK103 BK170
               clear BK176 HB
               clear h0_ h1_ h2_ h3_ h4_ h5_ h6_ h7_ h8_ h9_ h10_ h11_ h12_ h13_ h14_ h15_ h16_ h17_ h18_
               have BK101 := n0_
               have BK102 := n1_
               have BK103 := n2_
               have BK170 := n3_
               have BK176 := n4_
               have BK182 := n5_
               have GW182 := n6_
               have GE182 := n7_
               have NB101_182 := n8_
               have NB182_101 := n9_
               have NB102_182 := n10_
               have NB182_102 := n11_
               have NB103_182 := n12_
               have NB182_103 := n13_
               have NB170_182 := n14_
               have NB182_170 := n15_
               have NB176_182 := n16_
               have NB182_176 := n17_
               have HB := n18_
               clear n0_ n1_ n2_ n3_ n4_ n5_ n6_ n7_ n8_ n9_ n10_ n11_ n12_ n13_ n14_ n15_ n16_ n17_ n18_
               have hHeld : w152.cell? ⟨gb103, 0, none⟩ = some (.int .i64 a2_0) ∧ w152.cell? ⟨gb103, 1, none⟩ = some (.int .i64 a2_1) ∧ w152.cell? ⟨gb103, 2, none⟩ = some (.int .i64 a2_2) ∧ w152.cell? ⟨gb103, 3, none⟩ = some (.int .u64 a2_3) := hS_
               refine norm_ (a' := ?_) ?_ ?_
               rotate_left
               ·
                simp only [putAll, Act.put, List.setIfInBounds_toArray, List.set_cons_zero, List.set_cons_succ]
                rfl
               refine one_ (i := 13) (N := none) #[true, true, true, true, true, true, true, true, true, true, true, true, true, true, false] rfl rfl (one_of HT_.out (by kernel_rfl)) (by decide) (fun K hK => ?_)
               have hs153 : w152.cell? ⟨gb182, 0, none⟩ = some (.int .i64 0) := (blk_cell BK182.out 0).trans rfl
               have hfs153 := blk_frozen BK182.out 0
               have hns153_0 := NB101_182.out
               have hns153_1 := NB102_182.out
               have hns153_2 := NB103_182.out
               have hns153_3 := NB170_182.out
               have hns153_4 := NB176_182.out
               have hms153_0 := NB182_101.out
               have hms153_1 := NB182_102.out
               have hms153_2 := NB182_103.out
               have hms153_3 := NB182_170.out
               have hms153_4 := NB182_176.out
               have hs154 : w152.cell? ⟨gb182, 1, none⟩ = some (.int .i64 0) := (blk_cell BK182.out 1).trans rfl
               have hfs154 := blk_frozen BK182.out 1
               have hns154_0 := NB101_182.out
               have hns154_1 := NB102_182.out
               have hns154_2 := NB103_182.out
               have hns154_3 := NB170_182.out
               have hns154_4 := NB176_182.out
               have hms154_0 := NB182_101.out
               have hms154_1 := NB182_102.out
               have hms154_2 := NB182_103.out
               have hms154_3 := NB182_170.out
               have hms154_4 := NB182_176.out
               have hs155 : w152.cell? ⟨gb182, 2, none⟩ = some (.int .i64 0) := (blk_cell BK182.out 2).trans rfl
               have hfs155 := blk_frozen BK182.out 2
               have hns155_0 := NB101_182.out
               have hns155_1 := NB102_182.out
               have hns155_2 := NB103_182.out
               have hns155_3 := NB170_182.out
               have hns155_4 := NB176_182.out
               have hms155_0 := NB182_101.out
               have hms155_1 := NB182_102.out
               have hms155_2 := NB182_103.out
               have hms155_3 := NB182_170.out
               have hms155_4 := NB182_176.out
               have hs156 : w152.cell? ⟨gb182, 3, none⟩ = some (.int .u64 0) := (blk_cell BK182.out 3).trans rfl
               have hfs156 := blk_frozen BK182.out 3
               have hns156_0 := NB101_182.out
               have hns156_1 := NB102_182.out
               have hns156_2 := NB103_182.out
               have hns156_3 := NB170_182.out
               have hns156_4 := NB176_182.out
               have hms156_0 := NB182_101.out
               have hms156_1 := NB182_102.out
               have hms156_2 := NB182_103.out
               have hms156_3 := NB182_170.out
               have hms156_4 := NB182_176.out
               refine skip_ (w1 := ?_) (by rfl) rfl ?_ ?_
               rotate_left
               ·
                go_simp
                rfl
               refine hK.out _ _ ⟨((cell_far (p := ⟨gb182, _, none⟩) NB103_182.out _).trans (((cell_far (p := ⟨gb182, _, none⟩) NB103_182.out _).trans (((cell_far (p := ⟨gb182, _, none⟩) NB103_182.out _).trans (((cell_far (p := ⟨gb182, _, none⟩) NB103_182.out _).trans (hHeld.1)))))))), ((cell_far (p := ⟨gb182, _, none⟩) NB103_182.out _).trans (((cell_far (p := ⟨gb182, _, none⟩) NB103_182.out _).trans (((cell_far (p := ⟨gb182, _, none⟩) NB103_182.out _).trans (((cell_far (p := ⟨gb182, _, none⟩) NB103_182.out _).trans (hHeld.2.1)))))))), ((cell_far (p := ⟨gb182, _, none⟩) NB103_182.out _).trans (((cell_far (p := ⟨gb182, _, none⟩) NB103_182.out _).trans (((cell_far (p := ⟨gb182, _, none⟩) NB103_182.out _).trans (((cell_far (p := ⟨gb182, _, none⟩) NB103_182.out _).trans (hHeld.2.2.1)))))))), ((cell_far (p := ⟨gb182, _, none⟩) NB103_182.out _).trans (((cell_far (p := ⟨gb182, _, none⟩) NB103_182.out _).trans (((cell_far (p := ⟨gb182, _, none⟩) NB103_182.out _).trans (((cell_far (p := ⟨gb182, _, none⟩) NB103_182.out _).trans (hHeld.2.2.2))))))))⟩ (fun hHeld => ?_)
               clear hK K
               refine pure_ (i := 14) (N := some 31) (v := ?_) (a' := ?_) #[true, true, true, true, true, true, true, true, true, true, true, true, true, true, true] rfl rfl (any_of HT_.out (by kernel_rfl)) (fun _ _ _ h => h) (Or.inl ⟨by rfl, ?_⟩) ?_ ?_
               rotate_left
               ·
                intro w'
                go_simp
                with_reducible rfl
               rotate_left
               ·
                simp only [Act.put, List.setIfInBounds_toArray, List.set_cons_zero, List.set_cons_succ, i64_w, i32_w]
                rfl
               refine done_ (done_of HT_.out (by kernel_rfl)) ?_
               have hnb157 := NB170_182.out
               have hnc157 := NB182_170.out
               have hcz158_0 : w152.cell? ⟨gb170, 0, none⟩ = some (.int .i64 t165) := (blk_cell BK170.out 0).trans rfl
               have hcz158_1 : w152.cell? ⟨gb170, 1, none⟩ = some (.int .i64 t166) := (blk_cell BK170.out 1).trans rfl
               have hcz158_2 : w152.cell? ⟨gb170, 2, none⟩ = some (.int .i64 t167) := (blk_cell BK170.out 2).trans rfl
               have hcz158_3 : w152.cell? ⟨gb170, 3, none⟩ = some (.int .u64 t168) := (blk_cell BK170.out 3).trans rfl
               have hfz158_0 := blk_frozen BK170.out 0
               have hfz158_1 := blk_frozen BK170.out 1
               have hfz158_2 := blk_frozen BK170.out 2
               have hfz158_3 := blk_frozen BK170.out 3
               have hnb159 := NB103_182.out
               have hnc159 := NB182_103.out
               have hcz160_0 : w152.cell? ⟨gb103, 0, none⟩ = some (.int .i64 a2_0) := (blk_cell BK103.out 0).trans rfl
               have hcz160_1 : w152.cell? ⟨gb103, 1, none⟩ = some (.int .i64 a2_1) := (blk_cell BK103.out 1).trans rfl
               have hcz160_2 : w152.cell? ⟨gb103, 2, none⟩ = some (.int .i64 a2_2) := (blk_cell BK103.out 2).trans rfl
               have hcz160_3 : w152.cell? ⟨gb103, 3, none⟩ = some (.int .u64 a2_3) := (blk_cell BK103.out 3).trans rfl
               have hfz160_0 := blk_frozen BK103.out 0
               have hfz160_1 := blk_frozen BK103.out 1
               have hfz160_2 := blk_frozen BK103.out 2
               have hfz160_3 := blk_frozen BK103.out 3
               try go_wp2
               go_ret
               exact ⟨by first | rfl | (simp [errW_none, errW_some] <;> rfl) | (simp only [← hji120]; first | rfl | (simp [errW_none, errW_some] <;> rfl)) | (simp [*, errW_none, errW_some] <;> rfl), by repeat (first | (with_reducible first | exact HB.out | apply wA_ | apply wN_ | apply wD_ | refine below_set ?_ GE101.out | refine below_set ?_ GE102.out | refine below_set ?_ GE103.out | refine below_set ?_ GE170.out | refine below_set ?_ GE176.out | refine below_set ?_ GE182.out) | exact HB.out)⟩
             ·
              rw [if_neg c127] at H
              have c127b0 : (t181 == 2) = false := beq_eq_false_iff_ne.mpr c127
              have c127b1 : (t181 != 2) = true := bne_iff_ne.mpr c127
              obtain rfl := Option.some.inj H
              exact absurd hrp_ (by decide)
           ·
            rw [if_neg c125] at H
            have c125b0 : (t169 == 0) = false := beq_eq_false_iff_ne.mpr c125
            have c125b1 : (t169 != 0) = true := bne_iff_ne.mpr c125
            obtain rfl := Option.some.inj H
            exact absurd hrp_ (by decide)
         ·
          rw [if_neg c122] at H
          exact absurd H (by simp)
        ·
         rw [if_neg c121] at H
         exact absurd H (by simp)
       ·
        rw [if_neg c118] at H
        exact absurd H (by simp)
      ·
       rw [if_neg c116] at H
       have c116b0 : (t164 == 0) = false := beq_eq_false_iff_ne.mpr c116
       have c116b1 : (t164 != 0) = true := bne_iff_ne.mpr c116
       obtain rfl := Option.some.inj H
       clear hrp_
       have hnb161 := NB103_101.out
       have hnc161 := NB101_103.out
       have hnb162 := NB103_102.out
       have hnc162 := NB102_103.out
       have hcz163_0 : wc.cell? ⟨gb103, 0, none⟩ = some (.int .i64 a2_0) := (blk_cell BK103.out 0).trans rfl
       have hcz163_1 : wc.cell? ⟨gb103, 1, none⟩ = some (.int .i64 a2_1) := (blk_cell BK103.out 1).trans rfl
       have hcz163_2 : wc.cell? ⟨gb103, 2, none⟩ = some (.int .i64 a2_2) := (blk_cell BK103.out 2).trans rfl
       have hcz163_3 : wc.cell? ⟨gb103, 3, none⟩ = some (.int .u64 a2_3) := (blk_cell BK103.out 3).trans rfl
       have hfz163_0 := blk_frozen BK103.out 0
       have hfz163_1 := blk_frozen BK103.out 1
       have hfz163_2 := blk_frozen BK103.out 2
       have hfz163_3 := blk_frozen BK103.out 3
       go_wp2_with (first | ((with_reducible refine gate_callee (f := 14) rfl ?_); refine goesL_ (some 153) rfl rfl Try.func14 (by kernel_rfl) rfl #[.agg #[.int .i64 a2_0, .int .i64 a2_1, .int .i64 a2_2, .int .u64 a2_3]] rfl (by (try simp only [List.map_toArray, List.map_cons, List.map_nil]); first | done | rfl | (simp only [List.length_drop, List.length_take]; rfl)) ?_; (with_reducible refine (G.xPutSlot.calls a2_0 a2_1 a2_2 a2_3 t163 t164 _ A115.out).mono ?_); rintro e w164 ⟨rfl, hb⟩; refine ⟨_, rfl, ?_⟩; have n0_ := Aside0.mk (blk_below (g := gb101) (o := oB0_ a0_0 a0_1 a0_2 a0_3 a0_4 a0_5 a0_6 a0_7 a0_8 a0_9) (by (with_reducible repeat first | apply bN_ | apply bD_ | apply bA_); exact BK101.out) hb); have n1_ := Aside0.mk (blk_below (g := gb102) (o := oB1_ a1_0 a1_1 a1_2 a1_3) (by (with_reducible repeat first | apply bN_ | apply bD_ | apply bA_); exact BK102.out) hb); have n2_ := Aside0.mk (blk_below (g := gb103) (o := oB2_ a2_0 a2_1 a2_2 a2_3) (by (with_reducible repeat first | apply bN_ | apply bD_ | apply bA_); exact BK103.out) hb); have n3_ := Aside0.mk (below_step (by repeat (first | (with_reducible first | exact HB.out | apply wA_ | apply wN_ | apply wD_ | refine below_set ?_ GE101.out | refine below_set ?_ GE102.out | refine below_set ?_ GE103.out) | exact HB.out)) hb); clear BK101 BK102 BK103 HB; have BK101 := n0_; have BK102 := n1_; have BK103 := n2_; have HB := n3_; clear n0_ n1_ n2_ n3_; (try clear hb); (try clear hb2); (try clear hk); (try clear hi)))
       go_ret
       exact ⟨by first | rfl | (simp [errW_none, errW_some] <;> rfl) | (simp [*, errW_none, errW_some] <;> rfl), by repeat (first | (with_reducible first | exact HB.out | apply wA_ | apply wN_ | apply wD_ | refine below_set ?_ GE101.out | refine below_set ?_ GE102.out | refine below_set ?_ GE103.out) | exact HB.out)⟩
 ·
  replace c6 := Bool.eq_false_iff.mpr c6
  subst c6
  have H1 : (some false) = some r := by rw [if_neg (show ¬ (false = true) by decide)] at H; exact H
  clear H
  have H := H1
  clear H1
  obtain rfl := Option.some.inj H
  exact absurd hrp_ (by decide)

end Go.Proofs.Ytapfidadgafpbaa.B
