/-
  ref.
-/
import Derived.Test.YtnghbfegijnolaaA2
namespace Go.Proofs.Ytnghbfegijnolaa.A
set_option linter.unusedVariables false
set_option linter.unusedSimpArgs false
open Go.RowKit Go.Proofs.YtnghbfegijnolaaW.PrintWords Go.Proofs.YtnghbfegijnolaaW.PrintLast Go.Proofs.YtnghbfegijnolaaW.PrintMore
open Go.Lib (hid)
theorem below_set {w W : World} (h : Below w.heap.size w W) {g : Nat} (hg : w.heap.size ≤ g) (i : Nat) (u : Value) : Below w.heap.size w (W.setCell ⟨g, i, none⟩ u) :=
  ⟨h.os, h.tape, h.output, by simpa using h.size, fun k hk => (Below.heap_setCell W ⟨g, i, none⟩ u k (by show k ≠ g; omega)).trans (h.block k hk)⟩
theorem C_row1 {α : Type} {enc : α → Value} {h1 : ∀ x, (enc x).oneCell' = true} {w : World} {g e : Nat} {x : α} (h : w.heap[g]? = some (.cells #[enc x] e (0, 0))) : (Kd.scalar enc h1).C w (some ⟨g, 0, none⟩) [x].length [x] := by
  refine ⟨rfl, by simp, fun _ => ⟨_, rfl, fun j p hj => ?_⟩⟩
  have hj0 : j = 0 := by
    have := (List.getElem?_eq_some_iff.1 hj).1
    simpa using this
  subst hj0
  have hp : x = p := by simpa using hj
  subst hp
  refine ⟨[enc x], rfl, rfl, fun i u hu => ?_⟩
  have hi0 : i = 0 := by
    have := (List.getElem?_eq_some_iff.1 hu).1
    simpa using this
  subst hi0
  have hu' : enc x = u := by simpa using hu
  subst hu'
  rw [add_plain]
  exact (blk_cell h 0).trans rfl
theorem alloc2_fst (w : World) (o1 o2 : Obj) : ((w.alloc o1).alloc o2).heap[w.heap.size]? = some o1 :=
  ((below_alloc (Below.refl _ (w.alloc o1)) o2).block w.heap.size (by show w.heap.size < (w.heap.push o1).size; rw [Array.size_push]; omega)).trans Array.getElem?_push_size
theorem alloc2_snd (w : World) (o1 o2 : Obj) : ((w.alloc o1).alloc o2).heap[w.heap.size + 1]? = some o2 := by
  have h := @Array.getElem?_push_size _ (w.alloc o1).heap o2
  rw [show (w.alloc o1).heap.size = w.heap.size + 1 from Array.size_push ..] at h
  exact h
theorem At.mk_ {w : World} {x : Nd} {A1 A2 A3 : Option Addr} {c1 c2 c3 : Nat} (h1 : (Kd.int .u64).C w A1 x.keys.length x.keys) (l1 : x.keys.length ≤ c1) (h2 : Kd.string.C w A2 x.vals.length x.vals) (l2 : x.vals.length ≤ c2) (h3 : (Kd.int .i64).C w A3 x.kids.length x.kids) (l3 : x.kids.length ≤ c3) : At w (.agg #[.bool x.leaf, .slice A1 x.keys.length c1, .slice A2 x.vals.length c2, .slice A3 x.kids.length c3]) x :=
  ⟨A1, c1, A2, c2, A3, c3, rfl, ⟨h1, l1⟩, ⟨h2, l2⟩, ⟨h3, l3⟩⟩
set_option maxHeartbeats 1000000 in
set_option maxRecDepth 100000 in
theorem ref_walk (x : Nd) (v : Value) (w : World) (H : At w v x) :
    Calls Try.prog 16 #[v] w fun e w' => ∃ v', e = .returned v' ∧ At w' v' x ∧ Below w.heap.size w w' := by
  obtain ⟨A1, c1, A2, c2, A3, c3, rfl, ⟨h1, l1⟩, ⟨h2, l2⟩, ⟨h3, l3⟩⟩ := H
  obtain ⟨leaf, keys, vals, kids⟩ := x
  simp only at h1 l1 h2 l2 h3 l3 ⊢
  have hx : Hid (((w.alloc (.cells #[.bool leaf, .slice A1 keys.length c1, .slice A2 vals.length c2, .slice A3 kids.length c3] 29)).alloc (.cells #[.bool false, .slice none 0 0, .slice none 0 0, .slice none 0 0] 36)).heap[w.heap.size]? = some (.cells #[.bool leaf, .slice A1 keys.length c1, .slice A2 vals.length c2, .slice A3 kids.length c3] 29 (0, 0))) := hid (alloc2_fst w _ _)
  have hr : Hid (((w.alloc (.cells #[.bool leaf, .slice A1 keys.length c1, .slice A2 vals.length c2, .slice A3 kids.length c3] 29)).alloc (.cells #[.bool false, .slice none 0 0, .slice none 0 0, .slice none 0 0] 36)).heap[w.heap.size + 1]? = some (.cells #[.bool false, .slice none 0 0, .slice none 0 0, .slice none 0 0] 36 (0, 0))) := hid (alloc2_snd w _ _)
  have hB := hid (below_alloc (below_alloc (Below.refl w.heap.size w) (.cells #[.bool leaf, .slice A1 keys.length c1, .slice A2 vals.length c2, .slice A3 kids.length c3] 29)) (.cells #[.bool false, .slice none 0 0, .slice none 0 0, .slice none 0 0] 36))
  go_enter Try.func16, Try.ntmps16
  go_upto_region 1 with fail
  generalize (w.alloc (.cells #[.bool leaf, .slice A1 keys.length c1, .slice A2 vals.length c2, .slice A3 kids.length c3] 29)).alloc (.cells #[.bool false, .slice none 0 0, .slice none 0 0, .slice none 0 0] 36) = w1 at *
  have d0 : w1.cell? ⟨w.heap.size, 0, none⟩ = some (.bool leaf) := (blk_cell hx.out 0).trans rfl
  have d1 : w1.cell? ⟨w.heap.size, 1, none⟩ = some (.slice A1 keys.length c1) := (blk_cell hx.out 1).trans rfl
  have d2 : w1.cell? ⟨w.heap.size, 2, none⟩ = some (.slice A2 vals.length c2) := (blk_cell hx.out 2).trans rfl
  have d3 : w1.cell? ⟨w.heap.size, 3, none⟩ = some (.slice A3 kids.length c3) := (blk_cell hx.out 3).trans rfl
  have e0 : w1.cell? ⟨w.heap.size + 1, 0, none⟩ = some (.bool false) := (blk_cell hr.out 0).trans rfl
  have f0 := blk_frozen (w := w1) hr.out 0
  have e1 : w1.cell? ⟨w.heap.size + 1, 1, none⟩ = some (.slice none 0 0) := (blk_cell hr.out 1).trans rfl
  have f1 := blk_frozen (w := w1) hr.out 1
  have e2 : w1.cell? ⟨w.heap.size + 1, 2, none⟩ = some (.slice none 0 0) := (blk_cell hr.out 2).trans rfl
  have f2 := blk_frozen (w := w1) hr.out 2
  have e3 : w1.cell? ⟨w.heap.size + 1, 3, none⟩ = some (.slice none 0 0) := (blk_cell hr.out 3).trans rfl
  have f3 := blk_frozen (w := w1) hr.out 3
  have hZ := hid (blk_set (blk_set (blk_set (blk_set hr.out 0 (.bool leaf)) 1 (.slice A1 keys.length c1)) 2 (.slice A2 vals.length c2)) 3 (.slice A3 kids.length c3))
  have hb := hid (below_set (below_set (below_set (below_set hB.out (Nat.le_succ _) 0 (.bool leaf)) (Nat.le_succ _) 1 (.slice A1 keys.length c1)) (Nat.le_succ _) 2 (.slice A2 vals.length c2)) (Nat.le_succ _) 3 (.slice A3 kids.length c3))
  go_wp2_with fail
  refine bodyPost_ret (results_cell_row rfl _ _ (w.heap.size + 1) 36 #[.bool leaf, .slice A1 keys.length c1, .slice A2 vals.length c2, .slice A3 kids.length c3] (0, 0) _ rfl hZ.out Try.underlying36 rfl (by kernel_rfl)) rfl ?_
  exact ⟨_, rfl, At.mk_ (x := ⟨leaf, keys, vals, kids⟩) (Kd.C_below h1 hb.out) l1 (Kd.C_below h2 hb.out) l2 (Kd.C_below h3 hb.out) l3, hb.out⟩
end Go.Proofs.Ytnghbfegijnolaa.A
