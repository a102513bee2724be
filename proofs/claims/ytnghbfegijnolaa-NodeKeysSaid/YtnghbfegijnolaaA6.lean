/-
  nodes.
-/
import Derived.Test.YtnghbfegijnolaaB0
namespace Go.Proofs.Ytnghbfegijnolaa.A
set_option linter.unusedVariables false
set_option linter.unusedSimpArgs false
open Go.RowKit Go.Proofs.YtnghbfegijnolaaW.PrintWords Go.Proofs.YtnghbfegijnolaaW.PrintLast Go.Proofs.YtnghbfegijnolaaW.PrintMore
open Go.Lib (hid)
set_option maxHeartbeats 1000000 in
set_option maxRecDepth 100000 in
theorem nodes_walk (x y : Nd) (v u : Value) (w : World) (H : At w v x) (H' : At w u y) (k1 : x.keys.length ≤ 1099511627776) (k2 : x.vals.length ≤ 1099511627776) (k3 : x.kids.length ≤ 1099511627776) :
    Calls Try.prog 14 #[v, u] w fun e w' => e = .returned (.bool (sameB x y)) ∧ Below w.heap.size w w' := by
  obtain ⟨A1, c1, A2, c2, A3, c3, rfl, ⟨h1, l1⟩, ⟨h2, l2⟩, ⟨h3, l3⟩⟩ := H
  obtain ⟨B1, e1, B2, e2, B3, e3, rfl, ⟨g1, m1⟩, ⟨g2, m2⟩, ⟨g3, m3⟩⟩ := H'
  have HX := hid (fun W (hb : Below w.heap.size w W) => ref_walk x _ W (At.mk_ (Kd.C_below h1 hb) l1 (Kd.C_below h2 hb) l2 (Kd.C_below h3 hb) l3))
  have HY := hid (fun W (hb : Below w.heap.size w W) => At.mk_ (x := y) (Kd.C_below g1 hb) m1 (Kd.C_below g2 hb) m2 (Kd.C_below g3 hb) m3)
  have HS := hid (fun v u W (p : At W v x) (q : At W u y) => same_walk x y v u W p q k1 k2 k3)
  have hx : Hid (((w.alloc (.cells #[.bool x.leaf, .slice A1 x.keys.length c1, .slice A2 x.vals.length c2, .slice A3 x.kids.length c3] 29)).alloc (.cells #[.bool y.leaf, .slice B1 y.keys.length e1, .slice B2 y.vals.length e2, .slice B3 y.kids.length e3] 36)).heap[w.heap.size]? = some (.cells #[.bool x.leaf, .slice A1 x.keys.length c1, .slice A2 x.vals.length c2, .slice A3 x.kids.length c3] 29 (0, 0))) := hid (alloc2_fst w _ _)
  have hy : Hid (((w.alloc (.cells #[.bool x.leaf, .slice A1 x.keys.length c1, .slice A2 x.vals.length c2, .slice A3 x.kids.length c3] 29)).alloc (.cells #[.bool y.leaf, .slice B1 y.keys.length e1, .slice B2 y.vals.length e2, .slice B3 y.kids.length e3] 36)).heap[w.heap.size + 1]? = some (.cells #[.bool y.leaf, .slice B1 y.keys.length e1, .slice B2 y.vals.length e2, .slice B3 y.kids.length e3] 36 (0, 0))) := hid (alloc2_snd w _ _)
  have hB := hid (below_alloc (below_alloc (Below.refl w.heap.size w) (.cells #[.bool x.leaf, .slice A1 x.keys.length c1, .slice A2 x.vals.length c2, .slice A3 x.kids.length c3] 29)) (.cells #[.bool y.leaf, .slice B1 y.keys.length e1, .slice B2 y.vals.length e2, .slice B3 y.kids.length e3] 36))
  clear h1 h2 h3 l1 l2 l3 g1 g2 g3 m1 m2 m3 k1 k2 k3
  go_enter Try.func14, Try.ntmps14
  go_upto_region 1 with fail
  generalize (w.alloc (.cells #[.bool x.leaf, .slice A1 x.keys.length c1, .slice A2 x.vals.length c2, .slice A3 x.kids.length c3] 29)).alloc (.cells #[.bool y.leaf, .slice B1 y.keys.length e1, .slice B2 y.vals.length e2, .slice B3 y.kids.length e3] 36) = w1 at *
  have d0 : w1.cell? ⟨w.heap.size, 0, none⟩ = some (.bool x.leaf) := (blk_cell hx.out 0).trans rfl
  have d1 : w1.cell? ⟨w.heap.size, 1, none⟩ = some (.slice A1 x.keys.length c1) := (blk_cell hx.out 1).trans rfl
  have d2 : w1.cell? ⟨w.heap.size, 2, none⟩ = some (.slice A2 x.vals.length c2) := (blk_cell hx.out 2).trans rfl
  have d3 : w1.cell? ⟨w.heap.size, 3, none⟩ = some (.slice A3 x.kids.length c3) := (blk_cell hx.out 3).trans rfl
  have f0 : w1.cell? ⟨w.heap.size + 1, 0, none⟩ = some (.bool y.leaf) := (blk_cell hy.out 0).trans rfl
  have f1 : w1.cell? ⟨w.heap.size + 1, 1, none⟩ = some (.slice B1 y.keys.length e1) := (blk_cell hy.out 1).trans rfl
  have f2 : w1.cell? ⟨w.heap.size + 1, 2, none⟩ = some (.slice B2 y.vals.length e2) := (blk_cell hy.out 2).trans rfl
  have f3 : w1.cell? ⟨w.heap.size + 1, 3, none⟩ = some (.slice B3 y.kids.length e3) := (blk_cell hy.out 3).trans rfl
  refine start_ (n := 5) (S := fun w' => Below w1.heap.size w1 w') (ds := []) #[false, false, false, false, false] (by kernel_rfl) rfl rfl (below_drew (Below.refl _ _)) (fun hHeld => ?_)
  refine take_ (i := 0) (N := some 5) (v := ?_) (a' := ?_) #[true, false, false, false, false] rfl rfl (by kernel_rfl) (fun _ _ _ h => h) (Or.inl ⟨by rfl, ?_⟩) hHeld ?_ ?_
  rotate_left
  · rintro w' hb'
    have dd0 := pw_cell_below hb' d0
    have dd1 := pw_cell_below hb' d1
    have dd2 := pw_cell_below hb' d2
    have dd3 := pw_cell_below hb' d3
    go_simp
    with_reducible rfl
  rotate_left
  · simp only [Act.put, List.setIfInBounds_toArray, List.set_cons_zero, List.set_cons_succ, i64_w, i32_w]
    rfl
  refine take_ (i := 2) (N := some 7) (v := ?_) (a' := ?_) #[true, false, true, false, false] rfl rfl (by kernel_rfl) (fun _ _ _ h => h) (Or.inl ⟨by rfl, ?_⟩) hHeld ?_ ?_
  rotate_left
  · rintro w' hb'
    have dd0 := pw_cell_below hb' f0
    have dd1 := pw_cell_below hb' f1
    have dd2 := pw_cell_below hb' f2
    have dd3 := pw_cell_below hb' f3
    go_simp
    with_reducible rfl
  rotate_left
  · simp only [Act.put, List.setIfInBounds_toArray, List.set_cons_zero, List.set_cons_succ, i64_w, i32_w]
    rfl
  refine one_ (i := 1) (N := some 6) #[true, true, true, false, false] rfl rfl (by kernel_rfl) (by decide) (fun K hK => ?_)
  refine goes_ Try.func16 (by kernel_rfl) rfl #[.agg #[.bool x.leaf, .slice A1 x.keys.length c1, .slice A2 x.vals.length c2, .slice A3 x.kids.length c3]] (by rfl) rfl rfl (by (try simp only [List.map_toArray, List.map_cons, List.map_nil]); first | done | rfl) ?_
  refine (HX.out _ (below_drew hB.out)).mono ?_
  rintro r w2 ⟨v2, rfl, q1, q2⟩
  replace q1 := hid q1
  have s2 := below_then (below_drew (Below.refl _ _)) (Nat.le_refl _) q2
  have t2 := hid (below_then (below_drew hB.out) (below_drew hB.out).size q2)
  refine ⟨_, rfl, ?_⟩
  refine hK.out _ _ s2 (fun hHeld => ?_)
  clear hK K
  refine norm_ (a' := ?_) ?_ ?_
  rotate_left
  · show Act.put _ (some 6) _ = _
    simp only [Act.put, List.setIfInBounds_toArray, List.set_cons_zero, List.set_cons_succ, i64_w, i32_w]
    rfl
  refine one_ (i := 3) (N := some 8) #[true, true, true, true, false] rfl rfl (by kernel_rfl) (by decide) (fun K hK => ?_)
  refine goes_ Try.func37 (by kernel_rfl) rfl #[v2, .agg #[.bool y.leaf, .slice B1 y.keys.length e1, .slice B2 y.vals.length e2, .slice B3 y.kids.length e3]] (by rfl) rfl rfl (by (try simp only [List.map_toArray, List.map_cons, List.map_nil]); first | done | rfl) ?_
  refine (HS.out _ _ _ q1.out (HY.out _ t2.out)).mono ?_
  rintro r w3 ⟨rfl, q3⟩
  have s3 := below_then s2 s2.size q3
  have t3 := hid (below_then t2.out t2.out.size q3)
  refine ⟨_, rfl, ?_⟩
  refine hK.out _ _ s3 (fun hHeld => ?_)
  clear hK K
  refine norm_ (a' := ?_) ?_ ?_
  rotate_left
  · show Act.put _ (some 8) _ = _
    simp only [Act.put, List.setIfInBounds_toArray, List.set_cons_zero, List.set_cons_succ, i64_w, i32_w]
    rfl
  refine pure_ (i := 4) (N := some 4) (v := ?_) (a' := ?_) #[true, true, true, true, true] rfl rfl (by kernel_rfl) (fun _ _ _ h => h) (Or.inl ⟨by rfl, ?_⟩) ?_ ?_
  rotate_left
  · intro w'
    go_simp
    with_reducible rfl
  rotate_left
  · simp only [Act.put, List.setIfInBounds_toArray, List.set_cons_zero, List.set_cons_succ, i64_w, i32_w]
    rfl
  refine done_ (by kernel_rfl) ?_
  go_wp2_with fail
  go_ret
  exact ⟨rfl, t3.out⟩
end Go.Proofs.Ytnghbfegijnolaa.A
