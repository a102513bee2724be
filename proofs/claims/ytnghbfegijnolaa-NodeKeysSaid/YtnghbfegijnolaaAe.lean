/-
  examples.
-/
import Derived.Test.YtnghbfegijnolaaAd
namespace Go.Proofs.Ytnghbfegijnolaa.A
set_option linter.unusedVariables false
set_option linter.unusedSimpArgs false
open Go.RowKit Go.Proofs.YtnghbfegijnolaaW.PrintWords Go.Proofs.YtnghbfegijnolaaW.PrintLast Go.Proofs.YtnghbfegijnolaaW.PrintMore
open Go.Lib (hid)
structure Boxed (W : World) (g : Nat) (cs : Array Value) (x : Nd) : Prop where
  box : W.heap[g]? = some (.cells cs 29 (0, 0))
  at_ : At W (.agg cs) x
theorem Boxed.below {W W' : World} {g : Nat} {cs : Array Value} {x : Nd} (h : Boxed W g cs x) (hb : Below W.heap.size W W') : Boxed W' g cs x :=
  ⟨(hb.block _ (blk_lt h.box)).trans h.box, h.at_.below hb⟩
theorem Boxed.lt {W : World} {g : Nat} {cs : Array Value} {x : Nd} (h : Boxed W g cs x) : g < W.heap.size := blk_lt h.box
theorem Boxed.new {W : World} {cs : Array Value} {x : Nd} (h : At W (.agg cs) x) : Boxed (W.alloc (.cells cs 29)) W.heap.size cs x :=
  ⟨Array.getElem?_push_size, h.below (below_alloc (Below.refl _ _) _)⟩
set_option maxHeartbeats 1000000 in
set_option maxRecDepth 100000 in
theorem examples_walk (w : World) : Calls Try.prog 10 #[] w fun e w' => e = .returned (.bool true) ∧ Below w.heap.size w w' := by
  have hB0 := hid (below_alloc (below_alloc (Below.refl w.heap.size w) (.cells #[.int .u64 7] 23)) (.cells #[.string ⟨#[97, 98, 99]⟩] 9))
  have hk1 : (((w.alloc (.cells #[.int .u64 7] 23)).alloc (.cells #[.string ⟨#[97, 98, 99]⟩] 9))).heap[w.heap.size]? = some (.cells #[.int .u64 7] 23 (0, 0)) := alloc2_fst w _ _
  have hk2 : (((w.alloc (.cells #[.int .u64 7] 23)).alloc (.cells #[.string ⟨#[97, 98, 99]⟩] 9))).heap[w.heap.size + 1]? = some (.cells #[.string ⟨#[97, 98, 99]⟩] 9 (0, 0)) := alloc2_snd w _ _
  have hA0 : At ((w.alloc (.cells #[.int .u64 7] 23)).alloc (.cells #[.string ⟨#[97, 98, 99]⟩] 9)) (.agg #[.bool true, .slice (some ⟨w.heap.size, 0, none⟩) 1 1, .slice (some ⟨w.heap.size + 1, 0, none⟩) 1 1, .slice none 0 0]) exN := At.mk_ (x := exN) (C_row1 (enc := Value.int .u64) hk1) (by decide) (C_row1 (enc := Value.string) hk2) (by decide) (Kd.C_nil _ _) (Nat.le_refl 0)
  have hx := hid (Boxed.new hA0)
  have hB := hid (below_alloc hB0.out (.cells #[.bool true, .slice (some ⟨w.heap.size, 0, none⟩) 1 1, .slice (some ⟨w.heap.size + 1, 0, none⟩) 1 1, .slice none 0 0] 29))
  have hg : Hid (((w.alloc (.cells #[.int .u64 7] 23)).alloc (.cells #[.string ⟨#[97, 98, 99]⟩] 9)).heap.size = w.heap.size + 1 + 1) := hid (by show ((w.heap.push _).push _).size = _; simp only [Array.size_push])
  have HE := hid (fun W (h : At W (.agg #[.bool true, .slice (some ⟨w.heap.size, 0, none⟩) 1 1, .slice (some ⟨w.heap.size + 1, 0, none⟩) 1 1, .slice none 0 0]) exN) => encode_ex _ W h)
  have HD := hid (fun W => decode_ex W)
  clear hk1 hk2 hA0 hB0
  rw [hg.out] at hx
  clear hg
  go_enter Try.func10, Try.ntmps10
  (try dsimp only [List.append])
  go_upto_region 2 with fail
  generalize ((w.alloc (.cells #[.int .u64 7] 23)).alloc (.cells #[.string ⟨#[97, 98, 99]⟩] 9)).alloc (.cells #[.bool true, .slice (some ⟨w.heap.size, 0, none⟩) 1 1, .slice (some ⟨w.heap.size + 1, 0, none⟩) 1 1, .slice none 0 0] 29) = w1 at *
  have d0 : w1.cell? ⟨w.heap.size + 1 + 1, 0, none⟩ = some (.bool true) := (blk_cell hx.out.box 0).trans rfl; have d1 : w1.cell? ⟨w.heap.size + 1 + 1, 1, none⟩ = some (.slice (some ⟨w.heap.size, 0, none⟩) 1 1) := (blk_cell hx.out.box 1).trans rfl; have d2 : w1.cell? ⟨w.heap.size + 1 + 1, 2, none⟩ = some (.slice (some ⟨w.heap.size + 1, 0, none⟩) 1 1) := (blk_cell hx.out.box 2).trans rfl; have d3 : w1.cell? ⟨w.heap.size + 1 + 1, 3, none⟩ = some (.slice none 0 0) := (blk_cell hx.out.box 3).trans rfl
  go_upto_region 3 with (first | ((with_reducible refine Calls.mono (HE.out _ hx.out.at_) ?_); rintro r w2 ⟨rfl, hb⟩; replace hx := hid (hx.out.below hb); replace hB := hid (below_then hB.out hB.out.size hb); clear hb))
  clear d0 d1 d2 d3
  have hb0 := hid (hx.out.lt)
  go_upto_region 4 with (first | ((with_reducible refine Calls.mono (HD.out _) ?_); rintro r w3 ⟨v3, rfl, ⟨A1, c1, A2, c2, A3, c3, rfl, q1, q2, q3⟩, hb⟩; have hy := hid (Boxed.new (show At w3 (.agg #[.bool exN.leaf, .slice A1 exN.keys.length c1, .slice A2 exN.vals.length c2, .slice A3 exN.kids.length c3]) exN from ⟨A1, c1, A2, c2, A3, c3, rfl, q1, q2, q3⟩)); clear q1 q2 q3; replace hx := hid (hx.out.below hb); have HX3 := hid (hx.out.below (below_alloc (Below.refl _ w3) (.cells #[.bool exN.leaf, .slice A1 exN.keys.length c1, .slice A2 exN.vals.length c2, .slice A3 exN.kids.length c3] 29))); replace hB := hid (below_alloc (below_then hB.out hB.out.size hb) (.cells #[.bool exN.leaf, .slice A1 exN.keys.length c1, .slice A2 exN.vals.length c2, .slice A3 exN.kids.length c3] 29)); clear hb))
  change Code.wp _ _ _ _ (w3.alloc (.cells #[.bool exN.leaf, .slice A1 exN.keys.length c1, .slice A2 exN.vals.length c2, .slice A3 exN.kids.length c3] 29))
  generalize w3.alloc (.cells #[.bool exN.leaf, .slice A1 exN.keys.length c1, .slice A2 exN.vals.length c2, .slice A3 exN.kids.length c3] 29) = w4 at *
  replace hx : Hid (Boxed w4 (w.heap.size + 1 + 1) #[.bool true, .slice (some ⟨w.heap.size, 0, none⟩) 1 1, .slice (some ⟨w.heap.size + 1, 0, none⟩) 1 1, .slice none 0 0] exN) := HX3
  have hb4 := hid hy.out.lt
  generalize w3.heap.size = ny at *
  have d0 : w4.cell? ⟨w.heap.size + 1 + 1, 0, none⟩ = some (.bool true) := (blk_cell hx.out.box 0).trans rfl; have d1 : w4.cell? ⟨w.heap.size + 1 + 1, 1, none⟩ = some (.slice (some ⟨w.heap.size, 0, none⟩) 1 1) := (blk_cell hx.out.box 1).trans rfl; have d2 : w4.cell? ⟨w.heap.size + 1 + 1, 2, none⟩ = some (.slice (some ⟨w.heap.size + 1, 0, none⟩) 1 1) := (blk_cell hx.out.box 2).trans rfl; have d3 : w4.cell? ⟨w.heap.size + 1 + 1, 3, none⟩ = some (.slice none 0 0) := (blk_cell hx.out.box 3).trans rfl
  have f0 : w4.cell? ⟨ny, 0, none⟩ = some (.bool exN.leaf) := (blk_cell hy.out.box 0).trans rfl; have f1 : w4.cell? ⟨ny, 1, none⟩ = some (.slice A1 exN.keys.length c1) := (blk_cell hy.out.box 1).trans rfl; have f2 : w4.cell? ⟨ny, 2, none⟩ = some (.slice A2 exN.vals.length c2) := (blk_cell hy.out.box 2).trans rfl; have f3 : w4.cell? ⟨ny, 3, none⟩ = some (.slice A3 exN.kids.length c3) := (blk_cell hy.out.box 3).trans rfl
  have HR := hid (fun v W h => ref_walk exN v W h)
  have HN := hid (fun v u W (h : At W v exN) (h' : At W u exN) => nodes_walk exN exN v u W h h' (by decide) (by decide) (by decide))
  refine start_ (n := 5) (S := fun w' => Below w4.heap.size w4 w') (ds := []) #[false, false, false, false, false] (by kernel_rfl) rfl rfl (below_drew (Below.refl _ _)) (fun hHeld => ?_)
  refine take_ (i := 0) (N := some 22) (v := ?_) (a' := ?_) #[true, false, false, false, false] rfl rfl (by kernel_rfl) (fun _ _ _ h => h) (Or.inl ⟨by rfl, ?_⟩) hHeld ?_ ?_
  rotate_left
  · rintro w' hb'
    have dd0 := pw_cell_below hb' f0
    have dd1 := pw_cell_below hb' f1
    have dd2 := pw_cell_below hb' f2
    have dd3 := pw_cell_below hb' f3
    go_simp
    with_reducible rfl
  rotate_left
  · simp only [Act.put, List.setIfInBounds_toArray, List.set_cons_zero, List.set_cons_succ, i64_w, i32_w]
    rfl
  refine take_ (i := 1) (N := some 23) (v := ?_) (a' := ?_) #[true, true, false, false, false] rfl rfl (by kernel_rfl) (fun _ _ _ h => h) (Or.inl ⟨by rfl, ?_⟩) hHeld ?_ ?_
  rotate_left
  · rintro w' hb'
    have dd0 := pw_cell_below hb' d0
    have dd1 := pw_cell_below hb' d1
    have dd2 := pw_cell_below hb' d2
    have dd3 := pw_cell_below hb' d3
    go_simp
    with_reducible rfl
  rotate_left
  · simp only [Act.put, List.setIfInBounds_toArray, List.set_cons_zero, List.set_cons_succ, i64_w, i32_w]
    rfl
  refine one_ (i := 2) (N := some 24) #[true, true, true, false, false] rfl rfl (by kernel_rfl) (by decide) (fun K hK => ?_)
  refine goes_ Try.func16 (by kernel_rfl) rfl #[.agg #[.bool true, .slice (some ⟨w.heap.size, 0, none⟩) 1 1, .slice (some ⟨w.heap.size + 1, 0, none⟩) 1 1, .slice none 0 0]] (by rfl) rfl rfl (by (try simp only [List.map_toArray, List.map_cons, List.map_nil]); first | done | rfl) ?_
  refine (HR.out _ _ (hx.out.below (below_drew (Below.refl _ _))).at_).mono ?_
  rintro r w5 ⟨v5, rfl, q1, q2⟩
  replace q1 := hid q1
  have s2 := below_then (below_drew (Below.refl _ _)) (Nat.le_refl _) q2
  clear q2
  refine ⟨_, rfl, ?_⟩
  refine hK.out _ _ s2 (fun hHeld => ?_)
  clear hK K
  refine norm_ (a' := ?_) ?_ ?_
  rotate_left
  · show Act.put _ (some 24) _ = _
    simp only [Act.put, List.setIfInBounds_toArray, List.set_cons_zero, List.set_cons_succ, i64_w, i32_w]
    rfl
  refine one_ (i := 3) (N := some 25) #[true, true, true, true, false] rfl rfl (by kernel_rfl) (by decide) (fun K hK => ?_)
  refine goes_ Try.func14 (by kernel_rfl) rfl #[.agg #[.bool exN.leaf, .slice A1 exN.keys.length c1, .slice A2 exN.vals.length c2, .slice A3 exN.kids.length c3], v5] (by rfl) rfl rfl (by (try simp only [List.map_toArray, List.map_cons, List.map_nil]); first | done | rfl) ?_
  refine (HN.out _ _ _ (hy.out.below s2).at_ q1.out).mono ?_
  rintro r w6 ⟨rfl, q3⟩
  have s3 := below_then s2 s2.size q3
  clear q3
  refine ⟨_, rfl, ?_⟩
  refine hK.out _ _ s3 (fun hHeld => ?_)
  clear hK K
  refine norm_ (a' := ?_) ?_ ?_
  rotate_left
  · show Act.put _ (some 25) _ = _
    simp only [Act.put, List.setIfInBounds_toArray, List.set_cons_zero, List.set_cons_succ, i64_w, i32_w]
    rfl
  refine pure_ (i := 4) (N := some 6) (v := ?_) (a' := ?_) #[true, true, true, true, true] rfl rfl (by kernel_rfl) (fun _ _ _ h => h) (Or.inl ⟨by rfl, ?_⟩) ?_ ?_
  rotate_left
  · intro w'
    go_simp
    with_reducible rfl
  rotate_left
  · simp only [Act.put, List.setIfInBounds_toArray, List.set_cons_zero, List.set_cons_succ, i64_w, i32_w]
    rfl
  refine done_ (by kernel_rfl) ?_

  clear d0 d1 d2 d3 f0 f1 f2 f3 hHeld
  replace hx := hid (hx.out.below s3)
  replace hB := hid (below_then hB.out hB.out.size s3)
  clear s2 s3 q1 hy
  have d0 : w6.cell? ⟨w.heap.size + 1 + 1, 0, none⟩ = some (.bool true) := (blk_cell hx.out.box 0).trans rfl; have d1 : w6.cell? ⟨w.heap.size + 1 + 1, 1, none⟩ = some (.slice (some ⟨w.heap.size, 0, none⟩) 1 1) := (blk_cell hx.out.box 1).trans rfl; have d2 : w6.cell? ⟨w.heap.size + 1 + 1, 2, none⟩ = some (.slice (some ⟨w.heap.size + 1, 0, none⟩) 1 1) := (blk_cell hx.out.box 2).trans rfl; have d3 : w6.cell? ⟨w.heap.size + 1 + 1, 3, none⟩ = some (.slice none 0 0) := (blk_cell hx.out.box 3).trans rfl
  have HF := hid (fun W (h : At W (.agg #[.bool true, .slice (some ⟨w.heap.size, 0, none⟩) 1 1, .slice (some ⟨w.heap.size + 1, 0, none⟩) 1 1, .slice none 0 0]) exN) => find_walk exN _ 7 W h (by decide))
  have HS := hid (fun W (h : At W (.agg #[.bool true, .slice (some ⟨w.heap.size, 0, none⟩) 1 1, .slice (some ⟨w.heap.size + 1, 0, none⟩) 1 1, .slice none 0 0]) exN) => size_walk exN _ W h (by decide) (by decide) (by decide) (by decide))
  rw [show findF exN 7 = (0, true) by decide] at HF
  rw [show sizeF exN = 13 by decide] at HS
  go_upto_region 6 with (first | ((with_reducible refine Calls.mono (HF.out _ hx.out.at_) ?_); rintro r w7 ⟨rfl, hb⟩; replace hx := hid (hx.out.below hb); replace hB := hid (below_then hB.out hB.out.size hb); clear hb))
  clear d0 d1 d2 d3
  have d0 : w7.cell? ⟨w.heap.size + 1 + 1, 0, none⟩ = some (.bool true) := (blk_cell hx.out.box 0).trans rfl; have d1 : w7.cell? ⟨w.heap.size + 1 + 1, 1, none⟩ = some (.slice (some ⟨w.heap.size, 0, none⟩) 1 1) := (blk_cell hx.out.box 1).trans rfl; have d2 : w7.cell? ⟨w.heap.size + 1 + 1, 2, none⟩ = some (.slice (some ⟨w.heap.size + 1, 0, none⟩) 1 1) := (blk_cell hx.out.box 2).trans rfl; have d3 : w7.cell? ⟨w.heap.size + 1 + 1, 3, none⟩ = some (.slice none 0 0) := (blk_cell hx.out.box 3).trans rfl
  go_wp2_with (first | ((with_reducible refine Calls.mono (HS.out _ hx.out.at_) ?_); rintro r w8 ⟨rfl, hb⟩; replace hB := hid (below_then hB.out hB.out.size hb); clear hb))
  go_ret
  exact ⟨rfl, hB.out⟩
end Go.Proofs.Ytnghbfegijnolaa.A
