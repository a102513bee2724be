/-
  The document's Without, Unhang, Hang.
-/
import Derived.Test.YtnghbfegijnolaaR1
import Derived.Test.YtnghbfegijnolaaPx5
namespace Go.Proofs.Ytnghbfegijnolaa.A
set_option linter.unusedVariables false
set_option linter.unusedSimpArgs false
open Go.RowKit Go.Proofs.YtnghbfegijnolaaW.PrintWords Go.Proofs.YtnghbfegijnolaaW.PrintLast Go.Proofs.YtnghbfegijnolaaW.PrintMore
open Go.Lib (hid)
theorem R_set4 {α : Type} {d : Kd α} {e base : Nat} {ok : Nat → Prop} {w : World} {v : Value} {xs : List α} (h : d.R e w base ok v xs) {g t : Nat} {u0 u1 u2 u3 : Value} (hb : w.heap[g]? = some (.cells #[u0, u1, u2, u3] t (0, 0))) (ht : ∀ q, q ∈ e :: d.E → q ≠ t) (v0 v1 v2 v3 : Value) : d.R e (set4 w g v0 v1 v2 v3) base ok v xs :=
  Kd.R_set (Kd.R_set (Kd.R_set (Kd.R_set h hb ht 0 v0) (blk_set hb 0 v0) ht 1 v1) (blk_set (blk_set hb 0 v0) 1 v1) ht 2 v2) (blk_set (blk_set (blk_set hb 0 v0) 1 v1) 2 v2) ht 3 v3
set_option maxHeartbeats 1000000 in
set_option maxRecDepth 100000 in
theorem rwithout_walk (x : Nd) (v : Value) (i : Int) (w : World) (P : PlainNd x) (H : At w v x) (k1 : x.keys.length ≤ 1099511627776) (k2 : x.vals.length ≤ 1099511627776) (k3 : x.kids.length ≤ 1099511627776) :
    Calls Try.prog 27 #[v, .int .i64 i] w fun e w' => ∃ v', e = .returned v' ∧ At w' v' (withoutF x i) ∧ Below w.heap.size w w' := by
  have P1 := hid P.leaf
  have P2 := hid P.branch
  clear P
  obtain ⟨A1, c1, A2, c2, A3, c3, rfl, ⟨h1, l1⟩, ⟨h2, l2⟩, ⟨h3, l3⟩⟩ := H
  obtain ⟨leaf, keys, vals, kids⟩ := x
  simp only at h1 l1 h2 l2 h3 l3 ⊢
  have hx : Hid (((w.alloc (.cells #[.bool leaf, .slice A1 keys.length c1, .slice A2 vals.length c2, .slice A3 kids.length c3] 36)).alloc (.cells #[.bool false, .slice none 0 0, .slice none 0 0, .slice none 0 0] 36)).heap[w.heap.size]? = some (.cells #[.bool leaf, .slice A1 keys.length c1, .slice A2 vals.length c2, .slice A3 kids.length c3] 36 (0, 0))) := hid (alloc2_fst w _ _)
  have hr : Hid (((w.alloc (.cells #[.bool leaf, .slice A1 keys.length c1, .slice A2 vals.length c2, .slice A3 kids.length c3] 36)).alloc (.cells #[.bool false, .slice none 0 0, .slice none 0 0, .slice none 0 0] 36)).heap[w.heap.size + 1]? = some (.cells #[.bool false, .slice none 0 0, .slice none 0 0, .slice none 0 0] 36 (0, 0))) := hid (alloc2_snd w _ _)
  have hB := hid (below_alloc (below_alloc (Below.refl w.heap.size w) (.cells #[.bool leaf, .slice A1 keys.length c1, .slice A2 vals.length c2, .slice A3 kids.length c3] 36)) (.cells #[.bool false, .slice none 0 0, .slice none 0 0, .slice none 0 0] 36))
  simp only at k1 k2 k3 P1 P2
  replace h1 := hid h1
  replace h2 := hid h2
  replace h3 := hid h3
  replace l1 := hid l1
  replace l2 := hid l2
  replace l3 := hid l3
  rw [withoutF]
  simp only
  by_cases hc : ¬ leaf = true
  · obtain rfl : leaf = false := by simpa using hc
    rw [if_neg (by simp)]
    go_enter Try.func27, Try.ntmps27
    go_upto_region 1 with fail
    generalize (w.alloc (.cells #[.bool false, .slice A1 keys.length c1, .slice A2 vals.length c2, .slice A3 kids.length c3] 36)).alloc (.cells #[.bool false, .slice none 0 0, .slice none 0 0, .slice none 0 0] 36) = w1 at *
    have d0 : w1.cell? ⟨w.heap.size, 0, none⟩ = some (.bool false) := (blk_cell hx.out 0).trans rfl
    have d1 : w1.cell? ⟨w.heap.size, 1, none⟩ = some (.slice A1 keys.length c1) := (blk_cell hx.out 1).trans rfl
    have d2 : w1.cell? ⟨w.heap.size, 2, none⟩ = some (.slice A2 vals.length c2) := (blk_cell hx.out 2).trans rfl
    have d3 : w1.cell? ⟨w.heap.size, 3, none⟩ = some (.slice A3 kids.length c3) := (blk_cell hx.out 3).trans rfl
    have e0 : w1.cell? ⟨w.heap.size + 1, 0, none⟩ = some (.bool false) := (blk_cell hr.out 0).trans rfl
    have f0 := blk_frozen (w := w1) hr.out 0
    have e1 : w1.cell? ⟨w.heap.size + 1, 1, none⟩ = some (.slice none 0 0) := (blk_cell hr.out 1).trans rfl
    have f1 := blk_frozen (w := w1) hr.out 1
    have e2 : w1.cell? ⟨w.heap.size + 1, 2, none⟩ = some (.slice none 0 0) := (blk_cell hr.out 2).trans rfl
    have f2 := blk_frozen (w := w1) hr.out 2
    have e3 : w1.cell? ⟨w.heap.size + 1, 3, none⟩ = some (.slice none 0 0) := (blk_cell hr.out 3).trans rfl
    have f3 := blk_frozen (w := w1) hr.out 3
    have hZ := hid (blk_set (blk_set (blk_set (blk_set hr.out 0 (.bool false)) 1 (.slice A1 keys.length c1)) 2 (.slice A2 vals.length c2)) 3 (.slice A3 kids.length c3))
    have hb := hid (below_set (below_set (below_set (below_set hB.out (Nat.le_succ _) 0 (.bool false)) (Nat.le_succ _) 1 (.slice A1 keys.length c1)) (Nat.le_succ _) 2 (.slice A2 vals.length c2)) (Nat.le_succ _) 3 (.slice A3 kids.length c3))
    go_wp2_with fail
    refine bodyPost_ret (results_cell_row rfl _ _ (w.heap.size + 1) 36 #[.bool false, .slice A1 keys.length c1, .slice A2 vals.length c2, .slice A3 kids.length c3] (0, 0) _ rfl hZ.out Try.underlying36 rfl (by kernel_rfl)) rfl ?_
    exact ⟨_, rfl, At.mk_ (x := ⟨false, keys, vals, kids⟩) (Kd.C_below h1.out hb.out) l1.out (Kd.C_below h2.out hb.out) l2.out (Kd.C_below h3.out hb.out) l3.out, hb.out⟩
  obtain rfl : leaf = true := by simpa using hc
  clear hc
  by_cases q1 : ¬ (0 ≤ i ∧ i < (keys.length : Int))
  · rw [if_neg (by simpa using q1)]
    have q2 : i < 0 ∨ (¬ i < 0 ∧ (keys.length : Int) ≤ i) := by omega
    clear k1 k2 k3 q1
    rcases q2 with q2 | ⟨q2, q3⟩
    · go_enter Try.func27, Try.ntmps27
      go_upto_region 1 with fail
      generalize (w.alloc (.cells #[.bool true, .slice A1 keys.length c1, .slice A2 vals.length c2, .slice A3 kids.length c3] 36)).alloc (.cells #[.bool false, .slice none 0 0, .slice none 0 0, .slice none 0 0] 36) = w1 at *
      have d0 : w1.cell? ⟨w.heap.size, 0, none⟩ = some (.bool true) := (blk_cell hx.out 0).trans rfl
      have d1 : w1.cell? ⟨w.heap.size, 1, none⟩ = some (.slice A1 keys.length c1) := (blk_cell hx.out 1).trans rfl
      have d2 : w1.cell? ⟨w.heap.size, 2, none⟩ = some (.slice A2 vals.length c2) := (blk_cell hx.out 2).trans rfl
      have d3 : w1.cell? ⟨w.heap.size, 3, none⟩ = some (.slice A3 kids.length c3) := (blk_cell hx.out 3).trans rfl
      have e0 : w1.cell? ⟨w.heap.size + 1, 0, none⟩ = some (.bool false) := (blk_cell hr.out 0).trans rfl
      have f0 := blk_frozen (w := w1) hr.out 0
      have e1 : w1.cell? ⟨w.heap.size + 1, 1, none⟩ = some (.slice none 0 0) := (blk_cell hr.out 1).trans rfl
      have f1 := blk_frozen (w := w1) hr.out 1
      have e2 : w1.cell? ⟨w.heap.size + 1, 2, none⟩ = some (.slice none 0 0) := (blk_cell hr.out 2).trans rfl
      have f2 := blk_frozen (w := w1) hr.out 2
      have e3 : w1.cell? ⟨w.heap.size + 1, 3, none⟩ = some (.slice none 0 0) := (blk_cell hr.out 3).trans rfl
      have f3 := blk_frozen (w := w1) hr.out 3
      have hZ := hid (blk_set (blk_set (blk_set (blk_set hr.out 0 (.bool true)) 1 (.slice A1 keys.length c1)) 2 (.slice A2 vals.length c2)) 3 (.slice A3 kids.length c3))
      have hb := hid (below_set (below_set (below_set (below_set hB.out (Nat.le_succ _) 0 (.bool true)) (Nat.le_succ _) 1 (.slice A1 keys.length c1)) (Nat.le_succ _) 2 (.slice A2 vals.length c2)) (Nat.le_succ _) 3 (.slice A3 kids.length c3))
      go_wp2_with fail
      refine bodyPost_ret (results_cell_row rfl _ _ (w.heap.size + 1) 36 #[.bool true, .slice A1 keys.length c1, .slice A2 vals.length c2, .slice A3 kids.length c3] (0, 0) _ rfl hZ.out Try.underlying36 rfl (by kernel_rfl)) rfl ?_
      exact ⟨_, rfl, At.mk_ (x := ⟨true, keys, vals, kids⟩) (Kd.C_below h1.out hb.out) l1.out (Kd.C_below h2.out hb.out) l2.out (Kd.C_below h3.out hb.out) l3.out, hb.out⟩
    · go_enter Try.func27, Try.ntmps27
      go_upto_region 1 with fail
      generalize (w.alloc (.cells #[.bool true, .slice A1 keys.length c1, .slice A2 vals.length c2, .slice A3 kids.length c3] 36)).alloc (.cells #[.bool false, .slice none 0 0, .slice none 0 0, .slice none 0 0] 36) = w1 at *
      have d0 : w1.cell? ⟨w.heap.size, 0, none⟩ = some (.bool true) := (blk_cell hx.out 0).trans rfl
      have d1 : w1.cell? ⟨w.heap.size, 1, none⟩ = some (.slice A1 keys.length c1) := (blk_cell hx.out 1).trans rfl
      have d2 : w1.cell? ⟨w.heap.size, 2, none⟩ = some (.slice A2 vals.length c2) := (blk_cell hx.out 2).trans rfl
      have d3 : w1.cell? ⟨w.heap.size, 3, none⟩ = some (.slice A3 kids.length c3) := (blk_cell hx.out 3).trans rfl
      have e0 : w1.cell? ⟨w.heap.size + 1, 0, none⟩ = some (.bool false) := (blk_cell hr.out 0).trans rfl
      have f0 := blk_frozen (w := w1) hr.out 0
      have e1 : w1.cell? ⟨w.heap.size + 1, 1, none⟩ = some (.slice none 0 0) := (blk_cell hr.out 1).trans rfl
      have f1 := blk_frozen (w := w1) hr.out 1
      have e2 : w1.cell? ⟨w.heap.size + 1, 2, none⟩ = some (.slice none 0 0) := (blk_cell hr.out 2).trans rfl
      have f2 := blk_frozen (w := w1) hr.out 2
      have e3 : w1.cell? ⟨w.heap.size + 1, 3, none⟩ = some (.slice none 0 0) := (blk_cell hr.out 3).trans rfl
      have f3 := blk_frozen (w := w1) hr.out 3
      have hZ := hid (blk_set (blk_set (blk_set (blk_set hr.out 0 (.bool true)) 1 (.slice A1 keys.length c1)) 2 (.slice A2 vals.length c2)) 3 (.slice A3 kids.length c3))
      have hb := hid (below_set (below_set (below_set (below_set hB.out (Nat.le_succ _) 0 (.bool true)) (Nat.le_succ _) 1 (.slice A1 keys.length c1)) (Nat.le_succ _) 2 (.slice A2 vals.length c2)) (Nat.le_succ _) 3 (.slice A3 kids.length c3))
      go_wp2_with fail
      refine bodyPost_ret (results_cell_row rfl _ _ (w.heap.size + 1) 36 #[.bool true, .slice A1 keys.length c1, .slice A2 vals.length c2, .slice A3 kids.length c3] (0, 0) _ rfl hZ.out Try.underlying36 rfl (by kernel_rfl)) rfl ?_
      exact ⟨_, rfl, At.mk_ (x := ⟨true, keys, vals, kids⟩) (Kd.C_below h1.out hb.out) l1.out (Kd.C_below h2.out hb.out) l2.out (Kd.C_below h3.out hb.out) l3.out, hb.out⟩
  · replace q1 := Classical.not_not.1 q1
    rw [if_pos ⟨rfl, q1⟩]
    obtain ⟨k, rfl⟩ := Int.eq_ofNat_of_zero_le q1.1
    rw [Int.toNat_natCast]
    have q2 : ¬ ((k : Int) < 0) := by omega
    have q3 : ¬ ((keys.length : Int) ≤ (k : Int)) := by omega
    have hvl : vals.length = keys.length := (P1.out rfl).1
    obtain ⟨ka, hka⟩ : ∃ ka, ka = k + 1 := ⟨_, rfl⟩
    obtain ⟨kb, hkb⟩ : ∃ kb, kb = k + 1 + 1 := ⟨_, rfl⟩
    have qw : wrap64 ((k : Int) + 1) = (ka : Int) := by unfold wrap64; omega
    rw [show laidF keys [] k 1 = keys.take k ++ keys.drop (k + 1) by unfold laidF; rw [List.append_nil], show laidF vals [] k 1 = vals.take k ++ vals.drop (k + 1) by unfold laidF; rw [List.append_nil], ← hka]
    have hin1 : (Try.prog.info? 23).map (fun i => i.size) = some 1 := by kernel_rfl
    obtain ⟨i1, hi1, hsz1⟩ := Option.map_eq_some_iff.1 hin1
    have hF1 := front_C 25 23 Try.underlying25 hi1 A1 keys c1 k (by omega) l1.out
    obtain ⟨Bk1, hK1, hC1⟩ := back_C (Kd.int .u64) rfl 25 23 Try.underlying25 hi1 hsz1 A1 keys c1 ka (by omega) l1.out
    have HX1 := hid (fun W (hb : Below w.heap.size w W) => Kd.C_below (Kd.C_take h1.out (m := k) (by omega)) hb)
    have HY1 := hid (fun W (hb : Below w.heap.size w W) => Kd.C_below (hC1 w h1.out) hb)
    have hn1 : Hid (((keys.take k).length + 1 + (keys.drop ka).length) * 8 ≤ 140737488355328) := hid (by rw [List.length_take, List.length_drop]; omega)
    clear hin1 hi1 hsz1 hC1
    generalize keys.take k = X1 at *
    generalize keys.drop ka = Y1 at *
    obtain ⟨r1, hr1⟩ : ∃ r, X1 ++ Y1 = r := ⟨_, rfl⟩
    have hin2 : (Try.prog.info? 9).map (fun i => i.size) = some 1 := by kernel_rfl
    obtain ⟨i2, hi2, hsz2⟩ := Option.map_eq_some_iff.1 hin2
    have hF2 := front_C 26 9 Try.underlying26 hi2 A2 vals c2 k (by omega) l2.out
    obtain ⟨Bk2, hK2, hC2⟩ := back_C (Kd.string) rfl 26 9 Try.underlying26 hi2 hsz2 A2 vals c2 ka (by omega) l2.out
    have HX2 := hid (fun W (hb : Below w.heap.size w W) => Kd.C_below (Kd.C_take h2.out (m := k) (by omega)) hb)
    have HY2 := hid (fun W (hb : Below w.heap.size w W) => Kd.C_below (hC2 w h2.out) hb)
    have hn2 : Hid (((vals.take k).length + 1 + (vals.drop ka).length) * 16 ≤ 140737488355328) := hid (by rw [List.length_take, List.length_drop]; omega)
    clear hin2 hi2 hsz2 hC2
    generalize vals.take k = X2 at *
    generalize vals.drop ka = Y2 at *
    obtain ⟨r2, hr2⟩ : ∃ r, X2 ++ Y2 = r := ⟨_, rfl⟩
    rw [hr1, hr2]
    replace hvl := hid hvl
    replace hka := hid hka
    replace hkb := hid hkb
    replace hr1 := hid hr1
    replace hr2 := hid hr2
    clear k1 k2 k3 q1 P1 P2
    go_enter Try.func27, Try.ntmps27
    go_upto_region 1 with fail
    generalize (w.alloc (.cells #[.bool true, .slice A1 keys.length c1, .slice A2 vals.length c2, .slice A3 kids.length c3] 36)).alloc (.cells #[.bool false, .slice none 0 0, .slice none 0 0, .slice none 0 0] 36) = w1 at *
    have d0 : w1.cell? ⟨w.heap.size, 0, none⟩ = some (.bool true) := (blk_cell hx.out 0).trans rfl
    have d1 : w1.cell? ⟨w.heap.size, 1, none⟩ = some (.slice A1 keys.length c1) := (blk_cell hx.out 1).trans rfl
    have d2 : w1.cell? ⟨w.heap.size, 2, none⟩ = some (.slice A2 vals.length c2) := (blk_cell hx.out 2).trans rfl
    have d3 : w1.cell? ⟨w.heap.size, 3, none⟩ = some (.slice A3 kids.length c3) := (blk_cell hx.out 3).trans rfl
    have e0 : w1.cell? ⟨w.heap.size + 1, 0, none⟩ = some (.bool false) := (blk_cell hr.out 0).trans rfl
    have f0 := blk_frozen (w := w1) hr.out 0
    have e1 : w1.cell? ⟨w.heap.size + 1, 1, none⟩ = some (.slice none 0 0) := (blk_cell hr.out 1).trans rfl
    have f1 := blk_frozen (w := w1) hr.out 1
    have e2 : w1.cell? ⟨w.heap.size + 1, 2, none⟩ = some (.slice none 0 0) := (blk_cell hr.out 2).trans rfl
    have f2 := blk_frozen (w := w1) hr.out 2
    have e3 : w1.cell? ⟨w.heap.size + 1, 3, none⟩ = some (.slice none 0 0) := (blk_cell hr.out 3).trans rfl
    have f3 := blk_frozen (w := w1) hr.out 3
    have hO := hid (show (w1.alloc (.cells #[.bool true, .slice none 0 0, .slice none 0 0, .slice none 0 0] 36)).heap[w1.heap.size]? = some (.cells #[.bool true, .slice none 0 0, .slice none 0 0, .slice none 0 0] 36 (0, 0)) from Array.getElem?_push_size)
    have hx2 := hid ((Below.heap_alloc w1 (.cells #[.bool true, .slice none 0 0, .slice none 0 0, .slice none 0 0] 36) w.heap.size (blk_lt hx.out)).trans hx.out)
    have hr2' := hid ((Below.heap_alloc w1 (.cells #[.bool true, .slice none 0 0, .slice none 0 0, .slice none 0 0] 36) (w.heap.size + 1) (blk_lt hr.out)).trans hr.out)
    have hB2 := hid (below_alloc hB.out (.cells #[.bool true, .slice none 0 0, .slice none 0 0, .slice none 0 0] 36))
    have hgo := hid (show w.heap.size ≤ w1.heap.size from Nat.le_of_lt (Nat.lt_of_le_of_lt (Nat.le_succ _) (blk_lt hr.out)))
    have hgo2 := hid (show w.heap.size + 1 < w1.heap.size from blk_lt hr.out)
    go_upto_region 4 with fail
    clear d0 d1 d2 d3 e0 e1 e2 e3 f0 f1 f2 f3 hx hr hB
    generalize w1.alloc (.cells #[.bool true, .slice none 0 0, .slice none 0 0, .slice none 0 0] 36) = w2 at *
    generalize w1.heap.size = go at *
    have hx := hx2
    have hr := hr2'
    have hB := hB2
    clear hx2 hr2' hB2
    have d0 : w2.cell? ⟨w.heap.size, 0, none⟩ = some (.bool true) := (blk_cell hx.out 0).trans rfl
    have d1 : w2.cell? ⟨w.heap.size, 1, none⟩ = some (.slice A1 keys.length c1) := (blk_cell hx.out 1).trans rfl
    have d2 : w2.cell? ⟨w.heap.size, 2, none⟩ = some (.slice A2 vals.length c2) := (blk_cell hx.out 2).trans rfl
    have d3 : w2.cell? ⟨w.heap.size, 3, none⟩ = some (.slice A3 kids.length c3) := (blk_cell hx.out 3).trans rfl
    have g0 : w2.cell? ⟨go, 0, none⟩ = some (.bool true) := (blk_cell hO.out 0).trans rfl
    have g1 : w2.cell? ⟨go, 1, none⟩ = some (.slice none 0 0) := (blk_cell hO.out 1).trans rfl
    have g2 : w2.cell? ⟨go, 2, none⟩ = some (.slice none 0 0) := (blk_cell hO.out 2).trans rfl
    have g3 : w2.cell? ⟨go, 3, none⟩ = some (.slice none 0 0) := (blk_cell hO.out 3).trans rfl
    go_upto_region 4 with fail
    go_cut [] (fun wx => ∃ (Az : Option Addr) (cz : Nat), Hid ((Kd.int .u64).R 23 wx w.heap.size (fun _ => True) (.slice Az r1.length cz) r1) ∧ Hid (Below w.heap.size w wx) ∧ Hid (wx.heap[w.heap.size]? = some (.cells #[.bool true, .slice A1 keys.length c1, .slice A2 vals.length c2, .slice A3 kids.length c3] 36 (0, 0))) ∧ Hid (wx.heap[w.heap.size + 1]? = some (.cells #[.bool false, .slice none 0 0, .slice none 0 0, .slice none 0 0] 36 (0, 0))) ∧ Hid (wx.heap[go]? = some (.cells #[.bool true, .slice Az r1.length cz, .slice none 0 0, .slice none 0 0] 36 (0, 0))))
    case first =>
      refine start_ (n := 15) (S := fun w' => Below w2.heap.size w2 w') (ds := [14]) #[false, false, false, false, false, false, false, false, false, false, false, false, false, false, false] (by kernel_rfl) rfl rfl (below_drew (Below.refl _ _)) (fun hHeld => ?_)
      refine pure_ (i := 0) (N := some 22) (v := ?_) (a' := ?_) #[true, false, false, false, false, false, false, false, false, false, false, false, false, false, false] rfl rfl (by kernel_rfl) (fun _ _ _ h => h) (Or.inl ⟨by rfl, ?_⟩) ?_ ?_
      rotate_left
      · intro w'
        go_simp
        with_reducible rfl
      rotate_left
      · simp only [Act.put, List.setIfInBounds_toArray, List.set_cons_zero, List.set_cons_succ, i64_w, i32_w]
        rfl
      refine take_ (i := 1) (N := some 23) (v := ?_) (a' := ?_) #[true, true, false, false, false, false, false, false, false, false, false, false, false, false, false] rfl rfl (by kernel_rfl) (fun _ _ _ h => h) (Or.inl ⟨by rfl, ?_⟩) hHeld ?_ ?_
      rotate_left
      · rintro w' hb'
        have dd := pw_cell_below hb' g1
        go_simp
        with_reducible rfl
      rotate_left
      · simp only [Act.put, List.setIfInBounds_toArray, List.set_cons_zero, List.set_cons_succ, i64_w, i32_w]
        rfl
      refine pure_ (i := 2) (N := some 24) (v := ?_) (a' := ?_) #[true, true, true, false, false, false, false, false, false, false, false, false, false, false, false] rfl rfl (by kernel_rfl) (fun _ _ _ h => h) (Or.inl ⟨by rfl, ?_⟩) ?_ ?_
      rotate_left
      · intro w'
        go_simp
        with_reducible rfl
      rotate_left
      · simp only [Act.put, List.setIfInBounds_toArray, List.set_cons_zero, List.set_cons_succ, i64_w, i32_w]
        rfl
      refine take_ (i := 3) (N := some 25) (v := ?_) (a' := ?_) #[true, true, true, true, false, false, false, false, false, false, false, false, false, false, false] rfl rfl (by kernel_rfl) (fun _ _ _ h => h) (Or.inl ⟨by rfl, ?_⟩) hHeld ?_ ?_
      rotate_left
      · rintro w' hb'
        have dd := pw_cell_below hb' d1
        go_simp
        with_reducible rfl
      rotate_left
      · simp only [Act.put, List.setIfInBounds_toArray, List.set_cons_zero, List.set_cons_succ, i64_w, i32_w]
        rfl
      refine pure_ (i := 4) (N := some 26) (v := ?_) (a' := ?_) #[true, true, true, true, true, false, false, false, false, false, false, false, false, false, false] rfl rfl (by kernel_rfl) (fun _ _ _ h => h) (Or.inl ⟨by rfl, ?_⟩) ?_ ?_
      rotate_left
      · intro w'
        go_simp
        with_reducible rfl
      rotate_left
      · simp only [Act.put, List.setIfInBounds_toArray, List.set_cons_zero, List.set_cons_succ, i64_w, i32_w]
        rfl
      refine pure_ (i := 5) (N := some 27) (v := ?_) (a' := ?_) #[true, true, true, true, true, true, false, false, false, false, false, false, false, false, false] rfl rfl (by kernel_rfl) (fun _ _ _ h => h) (Or.inl ⟨by rfl, ?_⟩) ?_ ?_
      rotate_left
      · intro w'
        go_simp
        with_reducible rfl
      rotate_left
      · simp only [Act.put, List.setIfInBounds_toArray, List.set_cons_zero, List.set_cons_succ, i64_w, i32_w]
        rfl
      refine pure_ (i := 7) (N := some 29) (v := ?_) (a' := ?_) #[true, true, true, true, true, true, false, true, false, false, false, false, false, false, false] rfl rfl (by kernel_rfl) (fun _ _ _ h => h) (Or.inl ⟨by rfl, ?_⟩) ?_ ?_
      rotate_left
      · intro w'
        go_simp
        with_reducible rfl
      rotate_left
      · simp only [Act.put, List.setIfInBounds_toArray, List.set_cons_zero, List.set_cons_succ, i64_w, i32_w]
        rfl
      refine take_ (i := 8) (N := some 30) (v := ?_) (a' := ?_) #[true, true, true, true, true, true, false, true, true, false, false, false, false, false, false] rfl rfl (by kernel_rfl) (fun _ _ _ h => h) (Or.inl ⟨by rfl, ?_⟩) hHeld ?_ ?_
      rotate_left
      · rintro w' hb'
        have dd := pw_cell_below hb' d1
        go_simp
        with_reducible rfl
      rotate_left
      · simp only [Act.put, List.setIfInBounds_toArray, List.set_cons_zero, List.set_cons_succ, i64_w, i32_w]
        rfl
      refine pure_ (i := 9) (N := some 31) (v := ?_) (a' := ?_) #[true, true, true, true, true, true, false, true, true, true, false, false, false, false, false] rfl rfl (by kernel_rfl) (fun _ _ _ h => h) (Or.inl ⟨by rfl, ?_⟩) ?_ ?_
      rotate_left
      · intro w'
        go_simp
        with_reducible rfl
      rotate_left
      · simp only [Act.put, List.setIfInBounds_toArray, List.set_cons_zero, List.set_cons_succ, i64_w, i32_w]
        rfl
      refine pure_ (i := 10) (N := some 32) (v := ?_) (a' := ?_) #[true, true, true, true, true, true, false, true, true, true, true, false, false, false, false] rfl rfl (by kernel_rfl) (fun _ _ _ h => h) (Or.inl ⟨by rfl, ?_⟩) ?_ ?_
      rotate_left
      · intro w'
        go_simp
        with_reducible rfl
      rotate_left
      · simp only [Act.put, List.setIfInBounds_toArray, List.set_cons_zero, List.set_cons_succ, i64_w, i32_w]
        rfl
      refine pure_ (i := 11) (N := some 33) (v := ?_) (a' := ?_) #[true, true, true, true, true, true, false, true, true, true, true, true, false, false, false] rfl rfl (by kernel_rfl) (fun _ _ _ h => h) (Or.inl ⟨by rfl, ?_⟩) ?_ ?_
      rotate_left
      · intro w'
        go_simp
        with_reducible rfl
      rotate_left
      · simp only [Act.put, List.setIfInBounds_toArray, List.set_cons_zero, List.set_cons_succ, i64_w, i32_w]
        rfl
      refine one_ (i := 6) (N := some 28) #[true, true, true, true, true, true, true, true, true, true, true, true, false, false, false] rfl rfl (by kernel_rfl) (by decide) (fun K hK => ?_)
      refine app_ (Value.int .u64) rfl (by rfl) _ _ 25 23 (.int .u64 0) 8 rfl Try.underlying25 (by kernel_rfl) rfl (by decide) (.slice none 0 0) [] X1 A1 _ c1 (fun k => w2.heap.size ≤ k) (by rfl) (by rfl) (fun k hk => Nat.le_trans (below_drew (Below.refl w2.heap.size w2)).size hk) (Kd.R_nil _ _ _ _ _) (HX1.out _ (below_drew hB.out)) (below_drew hB.out) (by have h := hn1.out; simp only [List.length_nil]; omega) ?_
      intro va wa hRa hba hga _
      rw [List.nil_append] at hRa
      have sa := below_then (below_drew (Below.refl w2.heap.size w2)) (below_drew (Below.refl w2.heap.size w2)).size (grown_self hga rfl)
      refine hK.out _ _ sa (fun hHeld => ?_)
      clear hK K
      refine norm_ (a' := ?_) ?_ ?_
      rotate_left
      · show Act.put _ (some 28) _ = _
        simp only [Act.put, List.setIfInBounds_toArray, List.set_cons_zero, List.set_cons_succ, i64_w, i32_w]
        rfl
      refine one_ (i := 12) (N := some 34) #[true, true, true, true, true, true, true, true, true, true, true, true, true, false, false] rfl rfl (by kernel_rfl) (by decide) (fun K hK => ?_)
      refine app_ (Value.int .u64) rfl (by rfl) _ _ 25 23 (.int .u64 0) 8 rfl Try.underlying25 (by kernel_rfl) rfl (by decide) va X1 Y1 Bk1 _ (c1 - ka) (fun k => w2.heap.size ≤ k) (by rfl) (by rfl) (fun k hk => Nat.le_trans sa.size hk) hRa (HY1.out _ hba) hba (by have h := hn1.out; (try simp only [List.length_append, List.length_singleton]); omega) ?_
      intro vz wz hRz hbz hgz _
      rw [hr1.out] at hRz
      have sz := sa.grown hgz sa.size (fun k hk => hRa.1 k hk)
      refine hK.out _ _ sz (fun hHeld => ?_)
      clear hK K
      refine norm_ (a' := ?_) ?_ ?_
      rotate_left
      · show Act.put _ (some 34) _ = _
        simp only [Act.put, List.setIfInBounds_toArray, List.set_cons_zero, List.set_cons_succ, i64_w, i32_w]
        rfl
      obtain ⟨Az, cz, rfl⟩ := Kd.R_slice hRz
      have hoz := (sz.block _ (blk_lt hO.out)).trans hO.out
      have y0 := (blk_cell hoz 1).trans rfl
      have z0 := blk_frozen hoz 1
      refine pure_ (i := 13) (N := some 35) (v := ?_) (a' := ?_) #[true, true, true, true, true, true, true, true, true, true, true, true, true, true, false] rfl rfl (by kernel_rfl) (fun _ _ _ h => h) (Or.inl ⟨by rfl, ?_⟩) ?_ ?_
      rotate_left
      · intro w'
        go_simp
        with_reducible rfl
      rotate_left
      · simp only [Act.put, List.setIfInBounds_toArray, List.set_cons_zero, List.set_cons_succ, i64_w, i32_w]
        rfl
      refine last_ (i := 14) (N := none) #[true, true, true, true, true, true, true, true, true, true, true, true, true, true, true] rfl rfl (by kernel_rfl) (by decide) (fun K hK => ?_)
      refine skip_ (w1 := ?_) (by rfl) rfl ?_ ?_
      rotate_left
      · go_simp
        with_reducible rfl
      refine hK.out _ _ ?_
      clear hK K
      refine done_ (by kernel_rfl) ?_
      have hRf := hid (Kd.R_set (Kd.R_mono hRz (fun _ _ => trivial) : (Kd.int .u64).R 23 _ _ (fun _ => True) _ _) hoz (by decide) 1 (.slice Az r1.length cz))
      have hbf := hid (below_set hbz hgo.out 1 (.slice Az r1.length cz))
      have hof := hid (blk_set hoz 1 (.slice Az r1.length cz))
      have hxf := hid ((Below.heap_setCell wz ⟨go, 1, none⟩ (.slice Az r1.length cz) w.heap.size (by show w.heap.size ≠ go; have := hgo2.out; omega)).trans ((sz.block _ (blk_lt hx.out)).trans hx.out))
      have hrf := hid ((Below.heap_setCell wz ⟨go, 1, none⟩ (.slice Az r1.length cz) (w.heap.size + 1) (by show w.heap.size + 1 ≠ go; have := hgo2.out; omega)).trans ((sz.block _ (blk_lt hr.out)).trans hr.out))
      go_wp2_with fail
      go_meet
      exact ⟨Az, cz, hRf, hbf, hxf, hrf, hof⟩
    case rest =>
      obtain ⟨w3, hw3⟩ : ∃ w3, w3 = wc := ⟨_, rfl⟩
      subst hw3
      clear hx hr hO hB  d0 d1 d2 d3 g0 g1 g2 g3
      obtain ⟨A5, c5, hR1, hB, hx, hr, hO⟩ := hcut
      have d0 : w3.cell? ⟨w.heap.size, 0, none⟩ = some (.bool true) := (blk_cell hx.out 0).trans rfl
      have d1 : w3.cell? ⟨w.heap.size, 1, none⟩ = some (.slice A1 keys.length c1) := (blk_cell hx.out 1).trans rfl
      have d2 : w3.cell? ⟨w.heap.size, 2, none⟩ = some (.slice A2 vals.length c2) := (blk_cell hx.out 2).trans rfl
      have d3 : w3.cell? ⟨w.heap.size, 3, none⟩ = some (.slice A3 kids.length c3) := (blk_cell hx.out 3).trans rfl
      have g0 : w3.cell? ⟨go, 0, none⟩ = some (.bool true) := (blk_cell hO.out 0).trans rfl
      have g1 : w3.cell? ⟨go, 1, none⟩ = some (.slice A5 r1.length c5) := (blk_cell hO.out 1).trans rfl
      have g2 : w3.cell? ⟨go, 2, none⟩ = some (.slice none 0 0) := (blk_cell hO.out 2).trans rfl
      have g3 : w3.cell? ⟨go, 3, none⟩ = some (.slice none 0 0) := (blk_cell hO.out 3).trans rfl
      go_upto_region 5 with fail
      skip
      go_cut [] (fun wy => ∃ (Az : Option Addr) (cz : Nat), Hid ((Kd.string).R 9 wy w.heap.size (fun _ => True) (.slice Az r2.length cz) r2) ∧ Hid ((Kd.int .u64).R 23 wy w.heap.size (fun _ => True) (.slice A5 r1.length c5) r1) ∧ Hid (Below w.heap.size w wy) ∧ Hid (wy.heap[w.heap.size]? = some (.cells #[.bool true, .slice A1 keys.length c1, .slice A2 vals.length c2, .slice A3 kids.length c3] 36 (0, 0))) ∧ Hid (wy.heap[w.heap.size + 1]? = some (.cells #[.bool false, .slice none 0 0, .slice none 0 0, .slice none 0 0] 36 (0, 0))) ∧ Hid (wy.heap[go]? = some (.cells #[.bool true, .slice A5 r1.length c5, .slice Az r2.length cz, .slice none 0 0] 36 (0, 0))))
      case first =>
        refine start_ (n := 15) (S := fun w' => Below w3.heap.size w3 w') (ds := [14]) #[false, false, false, false, false, false, false, false, false, false, false, false, false, false, false] (by kernel_rfl) rfl rfl (below_drew (Below.refl _ _)) (fun hHeld => ?_)
        refine pure_ (i := 0) (N := some 36) (v := ?_) (a' := ?_) #[true, false, false, false, false, false, false, false, false, false, false, false, false, false, false] rfl rfl (by kernel_rfl) (fun _ _ _ h => h) (Or.inl ⟨by rfl, ?_⟩) ?_ ?_
        rotate_left
        · intro w'
          go_simp
          with_reducible rfl
        rotate_left
        · simp only [Act.put, List.setIfInBounds_toArray, List.set_cons_zero, List.set_cons_succ, i64_w, i32_w]
          rfl
        refine take_ (i := 1) (N := some 37) (v := ?_) (a' := ?_) #[true, true, false, false, false, false, false, false, false, false, false, false, false, false, false] rfl rfl (by kernel_rfl) (fun _ _ _ h => h) (Or.inl ⟨by rfl, ?_⟩) hHeld ?_ ?_
        rotate_left
        · rintro w' hb'
          have dd := pw_cell_below hb' g2
          go_simp
          with_reducible rfl
        rotate_left
        · simp only [Act.put, List.setIfInBounds_toArray, List.set_cons_zero, List.set_cons_succ, i64_w, i32_w]
          rfl
        refine pure_ (i := 2) (N := some 38) (v := ?_) (a' := ?_) #[true, true, true, false, false, false, false, false, false, false, false, false, false, false, false] rfl rfl (by kernel_rfl) (fun _ _ _ h => h) (Or.inl ⟨by rfl, ?_⟩) ?_ ?_
        rotate_left
        · intro w'
          go_simp
          with_reducible rfl
        rotate_left
        · simp only [Act.put, List.setIfInBounds_toArray, List.set_cons_zero, List.set_cons_succ, i64_w, i32_w]
          rfl
        refine take_ (i := 3) (N := some 39) (v := ?_) (a' := ?_) #[true, true, true, true, false, false, false, false, false, false, false, false, false, false, false] rfl rfl (by kernel_rfl) (fun _ _ _ h => h) (Or.inl ⟨by rfl, ?_⟩) hHeld ?_ ?_
        rotate_left
        · rintro w' hb'
          have dd := pw_cell_below hb' d2
          go_simp
          with_reducible rfl
        rotate_left
        · simp only [Act.put, List.setIfInBounds_toArray, List.set_cons_zero, List.set_cons_succ, i64_w, i32_w]
          rfl
        refine pure_ (i := 4) (N := some 40) (v := ?_) (a' := ?_) #[true, true, true, true, true, false, false, false, false, false, false, false, false, false, false] rfl rfl (by kernel_rfl) (fun _ _ _ h => h) (Or.inl ⟨by rfl, ?_⟩) ?_ ?_
        rotate_left
        · intro w'
          go_simp
          with_reducible rfl
        rotate_left
        · simp only [Act.put, List.setIfInBounds_toArray, List.set_cons_zero, List.set_cons_succ, i64_w, i32_w]
          rfl
        refine pure_ (i := 5) (N := some 41) (v := ?_) (a' := ?_) #[true, true, true, true, true, true, false, false, false, false, false, false, false, false, false] rfl rfl (by kernel_rfl) (fun _ _ _ h => h) (Or.inl ⟨by rfl, ?_⟩) ?_ ?_
        rotate_left
        · intro w'
          go_simp
          with_reducible rfl
        rotate_left
        · simp only [Act.put, List.setIfInBounds_toArray, List.set_cons_zero, List.set_cons_succ, i64_w, i32_w]
          rfl
        refine pure_ (i := 7) (N := some 43) (v := ?_) (a' := ?_) #[true, true, true, true, true, true, false, true, false, false, false, false, false, false, false] rfl rfl (by kernel_rfl) (fun _ _ _ h => h) (Or.inl ⟨by rfl, ?_⟩) ?_ ?_
        rotate_left
        · intro w'
          go_simp
          with_reducible rfl
        rotate_left
        · simp only [Act.put, List.setIfInBounds_toArray, List.set_cons_zero, List.set_cons_succ, i64_w, i32_w]
          rfl
        refine take_ (i := 8) (N := some 44) (v := ?_) (a' := ?_) #[true, true, true, true, true, true, false, true, true, false, false, false, false, false, false] rfl rfl (by kernel_rfl) (fun _ _ _ h => h) (Or.inl ⟨by rfl, ?_⟩) hHeld ?_ ?_
        rotate_left
        · rintro w' hb'
          have dd := pw_cell_below hb' d2
          go_simp
          with_reducible rfl
        rotate_left
        · simp only [Act.put, List.setIfInBounds_toArray, List.set_cons_zero, List.set_cons_succ, i64_w, i32_w]
          rfl
        refine pure_ (i := 9) (N := some 45) (v := ?_) (a' := ?_) #[true, true, true, true, true, true, false, true, true, true, false, false, false, false, false] rfl rfl (by kernel_rfl) (fun _ _ _ h => h) (Or.inl ⟨by rfl, ?_⟩) ?_ ?_
        rotate_left
        · intro w'
          go_simp
          with_reducible rfl
        rotate_left
        · simp only [Act.put, List.setIfInBounds_toArray, List.set_cons_zero, List.set_cons_succ, i64_w, i32_w]
          rfl
        refine pure_ (i := 10) (N := some 46) (v := ?_) (a' := ?_) #[true, true, true, true, true, true, false, true, true, true, true, false, false, false, false] rfl rfl (by kernel_rfl) (fun _ _ _ h => h) (Or.inl ⟨by rfl, ?_⟩) ?_ ?_
        rotate_left
        · intro w'
          go_simp
          with_reducible rfl
        rotate_left
        · simp only [Act.put, List.setIfInBounds_toArray, List.set_cons_zero, List.set_cons_succ, i64_w, i32_w]
          rfl
        refine pure_ (i := 11) (N := some 47) (v := ?_) (a' := ?_) #[true, true, true, true, true, true, false, true, true, true, true, true, false, false, false] rfl rfl (by kernel_rfl) (fun _ _ _ h => h) (Or.inl ⟨by rfl, ?_⟩) ?_ ?_
        rotate_left
        · intro w'
          go_simp
          with_reducible rfl
        rotate_left
        · simp only [Act.put, List.setIfInBounds_toArray, List.set_cons_zero, List.set_cons_succ, i64_w, i32_w]
          rfl
        refine one_ (i := 6) (N := some 42) #[true, true, true, true, true, true, true, true, true, true, true, true, false, false, false] rfl rfl (by kernel_rfl) (by decide) (fun K hK => ?_)
        refine app_ (Value.string) rfl (by rfl) _ _ 26 9 (.string ⟨#[]⟩) 16 rfl Try.underlying26 (by kernel_rfl) rfl (by decide) (.slice none 0 0) [] X2 A2 _ c2 (fun k => w3.heap.size ≤ k) (by rfl) (by rfl) (fun k hk => Nat.le_trans (below_drew (Below.refl w3.heap.size w3)).size hk) (Kd.R_nil _ _ _ _ _) (HX2.out _ (below_drew hB.out)) (below_drew hB.out) (by have h := hn2.out; simp only [List.length_nil]; omega) ?_
        intro va wa hRa hba hga _
        rw [List.nil_append] at hRa
        have sa := below_then (below_drew (Below.refl w3.heap.size w3)) (below_drew (Below.refl w3.heap.size w3)).size (grown_self hga rfl)
        refine hK.out _ _ sa (fun hHeld => ?_)
        clear hK K
        refine norm_ (a' := ?_) ?_ ?_
        rotate_left
        · show Act.put _ (some 42) _ = _
          simp only [Act.put, List.setIfInBounds_toArray, List.set_cons_zero, List.set_cons_succ, i64_w, i32_w]
          rfl
        refine one_ (i := 12) (N := some 48) #[true, true, true, true, true, true, true, true, true, true, true, true, true, false, false] rfl rfl (by kernel_rfl) (by decide) (fun K hK => ?_)
        refine app_ (Value.string) rfl (by rfl) _ _ 26 9 (.string ⟨#[]⟩) 16 rfl Try.underlying26 (by kernel_rfl) rfl (by decide) va X2 Y2 Bk2 _ (c2 - ka) (fun k => w3.heap.size ≤ k) (by rfl) (by rfl) (fun k hk => Nat.le_trans sa.size hk) hRa (HY2.out _ hba) hba (by have h := hn2.out; (try simp only [List.length_append, List.length_singleton]); omega) ?_
        intro vz wz hRz hbz hgz _
        rw [hr2.out] at hRz
        have sz := sa.grown hgz sa.size (fun k hk => hRa.1 k hk)
        refine hK.out _ _ sz (fun hHeld => ?_)
        clear hK K
        refine norm_ (a' := ?_) ?_ ?_
        rotate_left
        · show Act.put _ (some 48) _ = _
          simp only [Act.put, List.setIfInBounds_toArray, List.set_cons_zero, List.set_cons_succ, i64_w, i32_w]
          rfl
        obtain ⟨Az, cz, rfl⟩ := Kd.R_slice hRz
        have hoz := (sz.block _ (blk_lt hO.out)).trans hO.out
        have y0 := (blk_cell hoz 2).trans rfl
        have z0 := blk_frozen hoz 2
        refine pure_ (i := 13) (N := some 49) (v := ?_) (a' := ?_) #[true, true, true, true, true, true, true, true, true, true, true, true, true, true, false] rfl rfl (by kernel_rfl) (fun _ _ _ h => h) (Or.inl ⟨by rfl, ?_⟩) ?_ ?_
        rotate_left
        · intro w'
          go_simp
          with_reducible rfl
        rotate_left
        · simp only [Act.put, List.setIfInBounds_toArray, List.set_cons_zero, List.set_cons_succ, i64_w, i32_w]
          rfl
        refine last_ (i := 14) (N := none) #[true, true, true, true, true, true, true, true, true, true, true, true, true, true, true] rfl rfl (by kernel_rfl) (by decide) (fun K hK => ?_)
        refine skip_ (w1 := ?_) (by rfl) rfl ?_ ?_
        rotate_left
        · go_simp
          with_reducible rfl
        refine hK.out _ _ ?_
        clear hK K
        refine done_ (by kernel_rfl) ?_
        have hRf := hid (Kd.R_set (Kd.R_mono hRz (fun _ _ => trivial) : (Kd.string).R 9 _ _ (fun _ => True) _ _) hoz (by decide) 2 (.slice Az r2.length cz))
        have hbf := hid (below_set hbz hgo.out 2 (.slice Az r2.length cz))
        have hof := hid (blk_set hoz 2 (.slice Az r2.length cz))
        have hxf := hid ((Below.heap_setCell wz ⟨go, 2, none⟩ (.slice Az r2.length cz) w.heap.size (by show w.heap.size ≠ go; have := hgo2.out; omega)).trans ((sz.block _ (blk_lt hx.out)).trans hx.out))
        have hrf := hid ((Below.heap_setCell wz ⟨go, 2, none⟩ (.slice Az r2.length cz) (w.heap.size + 1) (by show w.heap.size + 1 ≠ go; have := hgo2.out; omega)).trans ((sz.block _ (blk_lt hr.out)).trans hr.out))
        have hRp1 := hid (Kd.R_set (Kd.R_below hR1.out sz) hoz (by decide) 2 (.slice Az r2.length cz))
        go_wp2_with fail
        go_meet
        exact ⟨Az, cz, hRf, hRp1, hbf, hxf, hrf, hof⟩
      case rest =>
        clear hx hr hO hB hR1 d0 d1 d2 d3 g0 g1 g2 g3
        obtain ⟨A6, c6, hR2, hR1, hB, hx, hr, hO⟩ := hcut
        have g0 : wc.cell? ⟨go, 0, none⟩ = some (.bool true) := (blk_cell hO.out 0).trans rfl
        have g1 : wc.cell? ⟨go, 1, none⟩ = some (.slice A5 r1.length c5) := (blk_cell hO.out 1).trans rfl
        have g2 : wc.cell? ⟨go, 2, none⟩ = some (.slice A6 r2.length c6) := (blk_cell hO.out 2).trans rfl
        have g3 : wc.cell? ⟨go, 3, none⟩ = some (.slice none 0 0) := (blk_cell hO.out 3).trans rfl
        have e0 : wc.cell? ⟨w.heap.size + 1, 0, none⟩ = some (.bool false) := (blk_cell hr.out 0).trans rfl
        have f0 := blk_frozen (w := wc) hr.out 0
        have e1 : wc.cell? ⟨w.heap.size + 1, 1, none⟩ = some (.slice none 0 0) := (blk_cell hr.out 1).trans rfl
        have f1 := blk_frozen (w := wc) hr.out 1
        have e2 : wc.cell? ⟨w.heap.size + 1, 2, none⟩ = some (.slice none 0 0) := (blk_cell hr.out 2).trans rfl
        have f2 := blk_frozen (w := wc) hr.out 2
        have e3 : wc.cell? ⟨w.heap.size + 1, 3, none⟩ = some (.slice none 0 0) := (blk_cell hr.out 3).trans rfl
        have f3 := blk_frozen (w := wc) hr.out 3
        have hZ := hid (set4_at hr.out (.bool true) (.slice A5 r1.length c5) (.slice A6 r2.length c6) (.slice none 0 0))
        have hb := hid (set4_below hB.out (Nat.le_succ _) (.bool true) (.slice A5 r1.length c5) (.slice A6 r2.length c6) (.slice none 0 0))
        obtain ⟨-, l1', C1'⟩ := Kd.R_reads' (R_set4 hR1.out hr.out (by decide) (.bool true) (.slice A5 r1.length c5) (.slice A6 r2.length c6) (.slice none 0 0))
        replace l1' := hid l1'
        replace C1' := hid C1'
        obtain ⟨-, l2', C2'⟩ := Kd.R_reads' (R_set4 hR2.out hr.out (by decide) (.bool true) (.slice A5 r1.length c5) (.slice A6 r2.length c6) (.slice none 0 0))
        replace l2' := hid l2'
        replace C2' := hid C2'
        go_wp2_with fail
        refine bodyPost_ret (results_cell_row rfl _ _ (w.heap.size + 1) 36 #[.bool true, .slice A5 r1.length c5, .slice A6 r2.length c6, .slice none 0 0] (0, 0) _ rfl hZ.out Try.underlying36 rfl (by kernel_rfl)) rfl ?_
        exact ⟨_, rfl, At.mk_ (x := ⟨true, r1, r2, []⟩) C1'.out l1'.out C2'.out l2'.out (Kd.C_nil _ _) (Nat.le_refl _), hb.out⟩
set_option maxHeartbeats 1000000 in
set_option maxRecDepth 100000 in
theorem runhang_walk (x : Nd) (v : Value) (i : Int) (w : World) (P : PlainNd x) (H : At w v x) (k1 : x.keys.length ≤ 1099511627776) (k2 : x.vals.length ≤ 1099511627776) (k3 : x.kids.length ≤ 1099511627776) :
    Calls Try.prog 29 #[v, .int .i64 i] w fun e w' => ∃ v', e = .returned v' ∧ At w' v' (unhangF x i) ∧ Below w.heap.size w w' := by
  have P1 := hid P.leaf
  have P2 := hid P.branch
  clear P
  obtain ⟨A1, c1, A2, c2, A3, c3, rfl, ⟨h1, l1⟩, ⟨h2, l2⟩, ⟨h3, l3⟩⟩ := H
  obtain ⟨leaf, keys, vals, kids⟩ := x
  simp only at h1 l1 h2 l2 h3 l3 ⊢
  have hx : Hid (((w.alloc (.cells #[.bool leaf, .slice A1 keys.length c1, .slice A2 vals.length c2, .slice A3 kids.length c3] 36)).alloc (.cells #[.bool false, .slice none 0 0, .slice none 0 0, .slice none 0 0] 36)).heap[w.heap.size]? = some (.cells #[.bool leaf, .slice A1 keys.length c1, .slice A2 vals.length c2, .slice A3 kids.length c3] 36 (0, 0))) := hid (alloc2_fst w _ _)
  have hr : Hid (((w.alloc (.cells #[.bool leaf, .slice A1 keys.length c1, .slice A2 vals.length c2, .slice A3 kids.length c3] 36)).alloc (.cells #[.bool false, .slice none 0 0, .slice none 0 0, .slice none 0 0] 36)).heap[w.heap.size + 1]? = some (.cells #[.bool false, .slice none 0 0, .slice none 0 0, .slice none 0 0] 36 (0, 0))) := hid (alloc2_snd w _ _)
  have hB := hid (below_alloc (below_alloc (Below.refl w.heap.size w) (.cells #[.bool leaf, .slice A1 keys.length c1, .slice A2 vals.length c2, .slice A3 kids.length c3] 36)) (.cells #[.bool false, .slice none 0 0, .slice none 0 0, .slice none 0 0] 36))
  simp only at k1 k2 k3 P1 P2
  replace h1 := hid h1
  replace h2 := hid h2
  replace h3 := hid h3
  replace l1 := hid l1
  replace l2 := hid l2
  replace l3 := hid l3
  rw [unhangF]
  simp only
  by_cases hc : ¬ leaf = false
  · obtain rfl : leaf = true := by simpa using hc
    rw [if_neg (by simp)]
    go_enter Try.func29, Try.ntmps29
    go_upto_region 1 with fail
    generalize (w.alloc (.cells #[.bool true, .slice A1 keys.length c1, .slice A2 vals.length c2, .slice A3 kids.length c3] 36)).alloc (.cells #[.bool false, .slice none 0 0, .slice none 0 0, .slice none 0 0] 36) = w1 at *
    have d0 : w1.cell? ⟨w.heap.size, 0, none⟩ = some (.bool true) := (blk_cell hx.out 0).trans rfl
    have d1 : w1.cell? ⟨w.heap.size, 1, none⟩ = some (.slice A1 keys.length c1) := (blk_cell hx.out 1).trans rfl
    have d2 : w1.cell? ⟨w.heap.size, 2, none⟩ = some (.slice A2 vals.length c2) := (blk_cell hx.out 2).trans rfl
    have d3 : w1.cell? ⟨w.heap.size, 3, none⟩ = some (.slice A3 kids.length c3) := (blk_cell hx.out 3).trans rfl
    have e0 : w1.cell? ⟨w.heap.size + 1, 0, none⟩ = some (.bool false) := (blk_cell hr.out 0).trans rfl
    have f0 := blk_frozen (w := w1) hr.out 0
    have e1 : w1.cell? ⟨w.heap.size + 1, 1, none⟩ = some (.slice none 0 0) := (blk_cell hr.out 1).trans rfl
    have f1 := blk_frozen (w := w1) hr.out 1
    have e2 : w1.cell? ⟨w.heap.size + 1, 2, none⟩ = some (.slice none 0 0) := (blk_cell hr.out 2).trans rfl
    have f2 := blk_frozen (w := w1) hr.out 2
    have e3 : w1.cell? ⟨w.heap.size + 1, 3, none⟩ = some (.slice none 0 0) := (blk_cell hr.out 3).trans rfl
    have f3 := blk_frozen (w := w1) hr.out 3
    have hZ := hid (blk_set (blk_set (blk_set (blk_set hr.out 0 (.bool true)) 1 (.slice A1 keys.length c1)) 2 (.slice A2 vals.length c2)) 3 (.slice A3 kids.length c3))
    have hb := hid (below_set (below_set (below_set (below_set hB.out (Nat.le_succ _) 0 (.bool true)) (Nat.le_succ _) 1 (.slice A1 keys.length c1)) (Nat.le_succ _) 2 (.slice A2 vals.length c2)) (Nat.le_succ _) 3 (.slice A3 kids.length c3))
    go_wp2_with fail
    refine bodyPost_ret (results_cell_row rfl _ _ (w.heap.size + 1) 36 #[.bool true, .slice A1 keys.length c1, .slice A2 vals.length c2, .slice A3 kids.length c3] (0, 0) _ rfl hZ.out Try.underlying36 rfl (by kernel_rfl)) rfl ?_
    exact ⟨_, rfl, At.mk_ (x := ⟨true, keys, vals, kids⟩) (Kd.C_below h1.out hb.out) l1.out (Kd.C_below h2.out hb.out) l2.out (Kd.C_below h3.out hb.out) l3.out, hb.out⟩
  obtain rfl : leaf = false := by simpa using hc
  clear hc
  by_cases q1 : ¬ (0 ≤ i ∧ i < (keys.length : Int))
  · rw [if_neg (by simpa using q1)]
    have q2 : i < 0 ∨ (¬ i < 0 ∧ (keys.length : Int) ≤ i) := by omega
    clear k1 k2 k3 q1
    rcases q2 with q2 | ⟨q2, q3⟩
    · go_enter Try.func29, Try.ntmps29
      go_upto_region 1 with fail
      generalize (w.alloc (.cells #[.bool false, .slice A1 keys.length c1, .slice A2 vals.length c2, .slice A3 kids.length c3] 36)).alloc (.cells #[.bool false, .slice none 0 0, .slice none 0 0, .slice none 0 0] 36) = w1 at *
      have d0 : w1.cell? ⟨w.heap.size, 0, none⟩ = some (.bool false) := (blk_cell hx.out 0).trans rfl
      have d1 : w1.cell? ⟨w.heap.size, 1, none⟩ = some (.slice A1 keys.length c1) := (blk_cell hx.out 1).trans rfl
      have d2 : w1.cell? ⟨w.heap.size, 2, none⟩ = some (.slice A2 vals.length c2) := (blk_cell hx.out 2).trans rfl
      have d3 : w1.cell? ⟨w.heap.size, 3, none⟩ = some (.slice A3 kids.length c3) := (blk_cell hx.out 3).trans rfl
      have e0 : w1.cell? ⟨w.heap.size + 1, 0, none⟩ = some (.bool false) := (blk_cell hr.out 0).trans rfl
      have f0 := blk_frozen (w := w1) hr.out 0
      have e1 : w1.cell? ⟨w.heap.size + 1, 1, none⟩ = some (.slice none 0 0) := (blk_cell hr.out 1).trans rfl
      have f1 := blk_frozen (w := w1) hr.out 1
      have e2 : w1.cell? ⟨w.heap.size + 1, 2, none⟩ = some (.slice none 0 0) := (blk_cell hr.out 2).trans rfl
      have f2 := blk_frozen (w := w1) hr.out 2
      have e3 : w1.cell? ⟨w.heap.size + 1, 3, none⟩ = some (.slice none 0 0) := (blk_cell hr.out 3).trans rfl
      have f3 := blk_frozen (w := w1) hr.out 3
      have hZ := hid (blk_set (blk_set (blk_set (blk_set hr.out 0 (.bool false)) 1 (.slice A1 keys.length c1)) 2 (.slice A2 vals.length c2)) 3 (.slice A3 kids.length c3))
      have hb := hid (below_set (below_set (below_set (below_set hB.out (Nat.le_succ _) 0 (.bool false)) (Nat.le_succ _) 1 (.slice A1 keys.length c1)) (Nat.le_succ _) 2 (.slice A2 vals.length c2)) (Nat.le_succ _) 3 (.slice A3 kids.length c3))
      go_wp2_with fail
      refine bodyPost_ret (results_cell_row rfl _ _ (w.heap.size + 1) 36 #[.bool false, .slice A1 keys.length c1, .slice A2 vals.length c2, .slice A3 kids.length c3] (0, 0) _ rfl hZ.out Try.underlying36 rfl (by kernel_rfl)) rfl ?_
      exact ⟨_, rfl, At.mk_ (x := ⟨false, keys, vals, kids⟩) (Kd.C_below h1.out hb.out) l1.out (Kd.C_below h2.out hb.out) l2.out (Kd.C_below h3.out hb.out) l3.out, hb.out⟩
    · go_enter Try.func29, Try.ntmps29
      go_upto_region 1 with fail
      generalize (w.alloc (.cells #[.bool false, .slice A1 keys.length c1, .slice A2 vals.length c2, .slice A3 kids.length c3] 36)).alloc (.cells #[.bool false, .slice none 0 0, .slice none 0 0, .slice none 0 0] 36) = w1 at *
      have d0 : w1.cell? ⟨w.heap.size, 0, none⟩ = some (.bool false) := (blk_cell hx.out 0).trans rfl
      have d1 : w1.cell? ⟨w.heap.size, 1, none⟩ = some (.slice A1 keys.length c1) := (blk_cell hx.out 1).trans rfl
      have d2 : w1.cell? ⟨w.heap.size, 2, none⟩ = some (.slice A2 vals.length c2) := (blk_cell hx.out 2).trans rfl
      have d3 : w1.cell? ⟨w.heap.size, 3, none⟩ = some (.slice A3 kids.length c3) := (blk_cell hx.out 3).trans rfl
      have e0 : w1.cell? ⟨w.heap.size + 1, 0, none⟩ = some (.bool false) := (blk_cell hr.out 0).trans rfl
      have f0 := blk_frozen (w := w1) hr.out 0
      have e1 : w1.cell? ⟨w.heap.size + 1, 1, none⟩ = some (.slice none 0 0) := (blk_cell hr.out 1).trans rfl
      have f1 := blk_frozen (w := w1) hr.out 1
      have e2 : w1.cell? ⟨w.heap.size + 1, 2, none⟩ = some (.slice none 0 0) := (blk_cell hr.out 2).trans rfl
      have f2 := blk_frozen (w := w1) hr.out 2
      have e3 : w1.cell? ⟨w.heap.size + 1, 3, none⟩ = some (.slice none 0 0) := (blk_cell hr.out 3).trans rfl
      have f3 := blk_frozen (w := w1) hr.out 3
      have hZ := hid (blk_set (blk_set (blk_set (blk_set hr.out 0 (.bool false)) 1 (.slice A1 keys.length c1)) 2 (.slice A2 vals.length c2)) 3 (.slice A3 kids.length c3))
      have hb := hid (below_set (below_set (below_set (below_set hB.out (Nat.le_succ _) 0 (.bool false)) (Nat.le_succ _) 1 (.slice A1 keys.length c1)) (Nat.le_succ _) 2 (.slice A2 vals.length c2)) (Nat.le_succ _) 3 (.slice A3 kids.length c3))
      go_wp2_with fail
      refine bodyPost_ret (results_cell_row rfl _ _ (w.heap.size + 1) 36 #[.bool false, .slice A1 keys.length c1, .slice A2 vals.length c2, .slice A3 kids.length c3] (0, 0) _ rfl hZ.out Try.underlying36 rfl (by kernel_rfl)) rfl ?_
      exact ⟨_, rfl, At.mk_ (x := ⟨false, keys, vals, kids⟩) (Kd.C_below h1.out hb.out) l1.out (Kd.C_below h2.out hb.out) l2.out (Kd.C_below h3.out hb.out) l3.out, hb.out⟩
  · replace q1 := Classical.not_not.1 q1
    rw [if_pos ⟨rfl, q1⟩]
    obtain ⟨k, rfl⟩ := Int.eq_ofNat_of_zero_le q1.1
    rw [Int.toNat_natCast]
    have q2 : ¬ ((k : Int) < 0) := by omega
    have q3 : ¬ ((keys.length : Int) ≤ (k : Int)) := by omega
    have hvl : kids.length = keys.length + 1 := (P2.out rfl).1
    obtain ⟨ka, hka⟩ : ∃ ka, ka = k + 1 := ⟨_, rfl⟩
    obtain ⟨kb, hkb⟩ : ∃ kb, kb = k + 1 + 1 := ⟨_, rfl⟩
    have qw : wrap64 ((k : Int) + 1) = (ka : Int) := by unfold wrap64; omega
    have qw2 : wrap64 ((k : Int) + 2) = (kb : Int) := by unfold wrap64; omega
    rw [show laidF keys [] k 1 = keys.take k ++ keys.drop (k + 1) by unfold laidF; rw [List.append_nil], show laidF kids [] (k + 1) 1 = kids.take (k + 1) ++ kids.drop (k + 1 + 1) by unfold laidF; rw [List.append_nil], ← hkb, ← hka]
    have hin1 : (Try.prog.info? 23).map (fun i => i.size) = some 1 := by kernel_rfl
    obtain ⟨i1, hi1, hsz1⟩ := Option.map_eq_some_iff.1 hin1
    have hF1 := front_C 25 23 Try.underlying25 hi1 A1 keys c1 k (by omega) l1.out
    obtain ⟨Bk1, hK1, hC1⟩ := back_C (Kd.int .u64) rfl 25 23 Try.underlying25 hi1 hsz1 A1 keys c1 ka (by omega) l1.out
    have HX1 := hid (fun W (hb : Below w.heap.size w W) => Kd.C_below (Kd.C_take h1.out (m := k) (by omega)) hb)
    have HY1 := hid (fun W (hb : Below w.heap.size w W) => Kd.C_below (hC1 w h1.out) hb)
    have hn1 : Hid (((keys.take k).length + 1 + (keys.drop ka).length) * 8 ≤ 140737488355328) := hid (by rw [List.length_take, List.length_drop]; omega)
    clear hin1 hi1 hsz1 hC1
    generalize keys.take k = X1 at *
    generalize keys.drop ka = Y1 at *
    obtain ⟨r1, hr1⟩ : ∃ r, X1 ++ Y1 = r := ⟨_, rfl⟩
    have hin2 : (Try.prog.info? 3).map (fun i => i.size) = some 1 := by kernel_rfl
    obtain ⟨i2, hi2, hsz2⟩ := Option.map_eq_some_iff.1 hin2
    have hF2 := front_C 27 3 Try.underlying27 hi2 A3 kids c3 ka (by omega) l3.out
    obtain ⟨Bk2, hK2, hC2⟩ := back_C (Kd.int .i64) rfl 27 3 Try.underlying27 hi2 hsz2 A3 kids c3 kb (by omega) l3.out
    have HX2 := hid (fun W (hb : Below w.heap.size w W) => Kd.C_below (Kd.C_take h3.out (m := ka) (by omega)) hb)
    have HY2 := hid (fun W (hb : Below w.heap.size w W) => Kd.C_below (hC2 w h3.out) hb)
    have hn2 : Hid (((kids.take ka).length + 1 + (kids.drop kb).length) * 8 ≤ 140737488355328) := hid (by rw [List.length_take, List.length_drop]; omega)
    clear hin2 hi2 hsz2 hC2
    generalize kids.take ka = X2 at *
    generalize kids.drop kb = Y2 at *
    obtain ⟨r2, hr2⟩ : ∃ r, X2 ++ Y2 = r := ⟨_, rfl⟩
    rw [hr1, hr2]
    replace hvl := hid hvl
    replace hka := hid hka
    replace hkb := hid hkb
    replace hr1 := hid hr1
    replace hr2 := hid hr2
    clear k1 k2 k3 q1 P1 P2
    go_enter Try.func29, Try.ntmps29
    go_upto_region 1 with fail
    generalize (w.alloc (.cells #[.bool false, .slice A1 keys.length c1, .slice A2 vals.length c2, .slice A3 kids.length c3] 36)).alloc (.cells #[.bool false, .slice none 0 0, .slice none 0 0, .slice none 0 0] 36) = w1 at *
    have d0 : w1.cell? ⟨w.heap.size, 0, none⟩ = some (.bool false) := (blk_cell hx.out 0).trans rfl
    have d1 : w1.cell? ⟨w.heap.size, 1, none⟩ = some (.slice A1 keys.length c1) := (blk_cell hx.out 1).trans rfl
    have d2 : w1.cell? ⟨w.heap.size, 2, none⟩ = some (.slice A2 vals.length c2) := (blk_cell hx.out 2).trans rfl
    have d3 : w1.cell? ⟨w.heap.size, 3, none⟩ = some (.slice A3 kids.length c3) := (blk_cell hx.out 3).trans rfl
    have e0 : w1.cell? ⟨w.heap.size + 1, 0, none⟩ = some (.bool false) := (blk_cell hr.out 0).trans rfl
    have f0 := blk_frozen (w := w1) hr.out 0
    have e1 : w1.cell? ⟨w.heap.size + 1, 1, none⟩ = some (.slice none 0 0) := (blk_cell hr.out 1).trans rfl
    have f1 := blk_frozen (w := w1) hr.out 1
    have e2 : w1.cell? ⟨w.heap.size + 1, 2, none⟩ = some (.slice none 0 0) := (blk_cell hr.out 2).trans rfl
    have f2 := blk_frozen (w := w1) hr.out 2
    have e3 : w1.cell? ⟨w.heap.size + 1, 3, none⟩ = some (.slice none 0 0) := (blk_cell hr.out 3).trans rfl
    have f3 := blk_frozen (w := w1) hr.out 3
    have hO := hid (show (w1.alloc (.cells #[.bool false, .slice none 0 0, .slice none 0 0, .slice none 0 0] 36)).heap[w1.heap.size]? = some (.cells #[.bool false, .slice none 0 0, .slice none 0 0, .slice none 0 0] 36 (0, 0)) from Array.getElem?_push_size)
    have hx2 := hid ((Below.heap_alloc w1 (.cells #[.bool false, .slice none 0 0, .slice none 0 0, .slice none 0 0] 36) w.heap.size (blk_lt hx.out)).trans hx.out)
    have hr2' := hid ((Below.heap_alloc w1 (.cells #[.bool false, .slice none 0 0, .slice none 0 0, .slice none 0 0] 36) (w.heap.size + 1) (blk_lt hr.out)).trans hr.out)
    have hB2 := hid (below_alloc hB.out (.cells #[.bool false, .slice none 0 0, .slice none 0 0, .slice none 0 0] 36))
    have hgo := hid (show w.heap.size ≤ w1.heap.size from Nat.le_of_lt (Nat.lt_of_le_of_lt (Nat.le_succ _) (blk_lt hr.out)))
    have hgo2 := hid (show w.heap.size + 1 < w1.heap.size from blk_lt hr.out)
    go_upto_region 4 with fail
    clear d0 d1 d2 d3 e0 e1 e2 e3 f0 f1 f2 f3 hx hr hB
    generalize w1.alloc (.cells #[.bool false, .slice none 0 0, .slice none 0 0, .slice none 0 0] 36) = w2 at *
    generalize w1.heap.size = go at *
    have hx := hx2
    have hr := hr2'
    have hB := hB2
    clear hx2 hr2' hB2
    have d0 : w2.cell? ⟨w.heap.size, 0, none⟩ = some (.bool false) := (blk_cell hx.out 0).trans rfl
    have d1 : w2.cell? ⟨w.heap.size, 1, none⟩ = some (.slice A1 keys.length c1) := (blk_cell hx.out 1).trans rfl
    have d2 : w2.cell? ⟨w.heap.size, 2, none⟩ = some (.slice A2 vals.length c2) := (blk_cell hx.out 2).trans rfl
    have d3 : w2.cell? ⟨w.heap.size, 3, none⟩ = some (.slice A3 kids.length c3) := (blk_cell hx.out 3).trans rfl
    have g0 : w2.cell? ⟨go, 0, none⟩ = some (.bool false) := (blk_cell hO.out 0).trans rfl
    have g1 : w2.cell? ⟨go, 1, none⟩ = some (.slice none 0 0) := (blk_cell hO.out 1).trans rfl
    have g2 : w2.cell? ⟨go, 2, none⟩ = some (.slice none 0 0) := (blk_cell hO.out 2).trans rfl
    have g3 : w2.cell? ⟨go, 3, none⟩ = some (.slice none 0 0) := (blk_cell hO.out 3).trans rfl
    go_upto_region 4 with fail
    go_cut [] (fun wx => ∃ (Az : Option Addr) (cz : Nat), Hid ((Kd.int .u64).R 23 wx w.heap.size (fun _ => True) (.slice Az r1.length cz) r1) ∧ Hid (Below w.heap.size w wx) ∧ Hid (wx.heap[w.heap.size]? = some (.cells #[.bool false, .slice A1 keys.length c1, .slice A2 vals.length c2, .slice A3 kids.length c3] 36 (0, 0))) ∧ Hid (wx.heap[w.heap.size + 1]? = some (.cells #[.bool false, .slice none 0 0, .slice none 0 0, .slice none 0 0] 36 (0, 0))) ∧ Hid (wx.heap[go]? = some (.cells #[.bool false, .slice Az r1.length cz, .slice none 0 0, .slice none 0 0] 36 (0, 0))))
    case first =>
      refine start_ (n := 15) (S := fun w' => Below w2.heap.size w2 w') (ds := [14]) #[false, false, false, false, false, false, false, false, false, false, false, false, false, false, false] (by kernel_rfl) rfl rfl (below_drew (Below.refl _ _)) (fun hHeld => ?_)
      refine pure_ (i := 0) (N := some 21) (v := ?_) (a' := ?_) #[true, false, false, false, false, false, false, false, false, false, false, false, false, false, false] rfl rfl (by kernel_rfl) (fun _ _ _ h => h) (Or.inl ⟨by rfl, ?_⟩) ?_ ?_
      rotate_left
      · intro w'
        go_simp
        with_reducible rfl
      rotate_left
      · simp only [Act.put, List.setIfInBounds_toArray, List.set_cons_zero, List.set_cons_succ, i64_w, i32_w]
        rfl
      refine take_ (i := 1) (N := some 22) (v := ?_) (a' := ?_) #[true, true, false, false, false, false, false, false, false, false, false, false, false, false, false] rfl rfl (by kernel_rfl) (fun _ _ _ h => h) (Or.inl ⟨by rfl, ?_⟩) hHeld ?_ ?_
      rotate_left
      · rintro w' hb'
        have dd := pw_cell_below hb' g1
        go_simp
        with_reducible rfl
      rotate_left
      · simp only [Act.put, List.setIfInBounds_toArray, List.set_cons_zero, List.set_cons_succ, i64_w, i32_w]
        rfl
      refine pure_ (i := 2) (N := some 23) (v := ?_) (a' := ?_) #[true, true, true, false, false, false, false, false, false, false, false, false, false, false, false] rfl rfl (by kernel_rfl) (fun _ _ _ h => h) (Or.inl ⟨by rfl, ?_⟩) ?_ ?_
      rotate_left
      · intro w'
        go_simp
        with_reducible rfl
      rotate_left
      · simp only [Act.put, List.setIfInBounds_toArray, List.set_cons_zero, List.set_cons_succ, i64_w, i32_w]
        rfl
      refine take_ (i := 3) (N := some 24) (v := ?_) (a' := ?_) #[true, true, true, true, false, false, false, false, false, false, false, false, false, false, false] rfl rfl (by kernel_rfl) (fun _ _ _ h => h) (Or.inl ⟨by rfl, ?_⟩) hHeld ?_ ?_
      rotate_left
      · rintro w' hb'
        have dd := pw_cell_below hb' d1
        go_simp
        with_reducible rfl
      rotate_left
      · simp only [Act.put, List.setIfInBounds_toArray, List.set_cons_zero, List.set_cons_succ, i64_w, i32_w]
        rfl
      refine pure_ (i := 4) (N := some 25) (v := ?_) (a' := ?_) #[true, true, true, true, true, false, false, false, false, false, false, false, false, false, false] rfl rfl (by kernel_rfl) (fun _ _ _ h => h) (Or.inl ⟨by rfl, ?_⟩) ?_ ?_
      rotate_left
      · intro w'
        go_simp
        with_reducible rfl
      rotate_left
      · simp only [Act.put, List.setIfInBounds_toArray, List.set_cons_zero, List.set_cons_succ, i64_w, i32_w]
        rfl
      refine pure_ (i := 5) (N := some 26) (v := ?_) (a' := ?_) #[true, true, true, true, true, true, false, false, false, false, false, false, false, false, false] rfl rfl (by kernel_rfl) (fun _ _ _ h => h) (Or.inl ⟨by rfl, ?_⟩) ?_ ?_
      rotate_left
      · intro w'
        go_simp
        with_reducible rfl
      rotate_left
      · simp only [Act.put, List.setIfInBounds_toArray, List.set_cons_zero, List.set_cons_succ, i64_w, i32_w]
        rfl
      refine pure_ (i := 7) (N := some 28) (v := ?_) (a' := ?_) #[true, true, true, true, true, true, false, true, false, false, false, false, false, false, false] rfl rfl (by kernel_rfl) (fun _ _ _ h => h) (Or.inl ⟨by rfl, ?_⟩) ?_ ?_
      rotate_left
      · intro w'
        go_simp
        with_reducible rfl
      rotate_left
      · simp only [Act.put, List.setIfInBounds_toArray, List.set_cons_zero, List.set_cons_succ, i64_w, i32_w]
        rfl
      refine take_ (i := 8) (N := some 29) (v := ?_) (a' := ?_) #[true, true, true, true, true, true, false, true, true, false, false, false, false, false, false] rfl rfl (by kernel_rfl) (fun _ _ _ h => h) (Or.inl ⟨by rfl, ?_⟩) hHeld ?_ ?_
      rotate_left
      · rintro w' hb'
        have dd := pw_cell_below hb' d1
        go_simp
        with_reducible rfl
      rotate_left
      · simp only [Act.put, List.setIfInBounds_toArray, List.set_cons_zero, List.set_cons_succ, i64_w, i32_w]
        rfl
      refine pure_ (i := 9) (N := some 30) (v := ?_) (a' := ?_) #[true, true, true, true, true, true, false, true, true, true, false, false, false, false, false] rfl rfl (by kernel_rfl) (fun _ _ _ h => h) (Or.inl ⟨by rfl, ?_⟩) ?_ ?_
      rotate_left
      · intro w'
        go_simp
        with_reducible rfl
      rotate_left
      · simp only [Act.put, List.setIfInBounds_toArray, List.set_cons_zero, List.set_cons_succ, i64_w, i32_w]
        rfl
      refine pure_ (i := 10) (N := some 31) (v := ?_) (a' := ?_) #[true, true, true, true, true, true, false, true, true, true, true, false, false, false, false] rfl rfl (by kernel_rfl) (fun _ _ _ h => h) (Or.inl ⟨by rfl, ?_⟩) ?_ ?_
      rotate_left
      · intro w'
        go_simp
        with_reducible rfl
      rotate_left
      · simp only [Act.put, List.setIfInBounds_toArray, List.set_cons_zero, List.set_cons_succ, i64_w, i32_w]
        rfl
      refine pure_ (i := 11) (N := some 32) (v := ?_) (a' := ?_) #[true, true, true, true, true, true, false, true, true, true, true, true, false, false, false] rfl rfl (by kernel_rfl) (fun _ _ _ h => h) (Or.inl ⟨by rfl, ?_⟩) ?_ ?_
      rotate_left
      · intro w'
        go_simp
        with_reducible rfl
      rotate_left
      · simp only [Act.put, List.setIfInBounds_toArray, List.set_cons_zero, List.set_cons_succ, i64_w, i32_w]
        rfl
      refine one_ (i := 6) (N := some 27) #[true, true, true, true, true, true, true, true, true, true, true, true, false, false, false] rfl rfl (by kernel_rfl) (by decide) (fun K hK => ?_)
      refine app_ (Value.int .u64) rfl (by rfl) _ _ 25 23 (.int .u64 0) 8 rfl Try.underlying25 (by kernel_rfl) rfl (by decide) (.slice none 0 0) [] X1 A1 _ c1 (fun k => w2.heap.size ≤ k) (by rfl) (by rfl) (fun k hk => Nat.le_trans (below_drew (Below.refl w2.heap.size w2)).size hk) (Kd.R_nil _ _ _ _ _) (HX1.out _ (below_drew hB.out)) (below_drew hB.out) (by have h := hn1.out; simp only [List.length_nil]; omega) ?_
      intro va wa hRa hba hga _
      rw [List.nil_append] at hRa
      have sa := below_then (below_drew (Below.refl w2.heap.size w2)) (below_drew (Below.refl w2.heap.size w2)).size (grown_self hga rfl)
      refine hK.out _ _ sa (fun hHeld => ?_)
      clear hK K
      refine norm_ (a' := ?_) ?_ ?_
      rotate_left
      · show Act.put _ (some 27) _ = _
        simp only [Act.put, List.setIfInBounds_toArray, List.set_cons_zero, List.set_cons_succ, i64_w, i32_w]
        rfl
      refine one_ (i := 12) (N := some 33) #[true, true, true, true, true, true, true, true, true, true, true, true, true, false, false] rfl rfl (by kernel_rfl) (by decide) (fun K hK => ?_)
      refine app_ (Value.int .u64) rfl (by rfl) _ _ 25 23 (.int .u64 0) 8 rfl Try.underlying25 (by kernel_rfl) rfl (by decide) va X1 Y1 Bk1 _ (c1 - ka) (fun k => w2.heap.size ≤ k) (by rfl) (by rfl) (fun k hk => Nat.le_trans sa.size hk) hRa (HY1.out _ hba) hba (by have h := hn1.out; (try simp only [List.length_append, List.length_singleton]); omega) ?_
      intro vz wz hRz hbz hgz _
      rw [hr1.out] at hRz
      have sz := sa.grown hgz sa.size (fun k hk => hRa.1 k hk)
      refine hK.out _ _ sz (fun hHeld => ?_)
      clear hK K
      refine norm_ (a' := ?_) ?_ ?_
      rotate_left
      · show Act.put _ (some 33) _ = _
        simp only [Act.put, List.setIfInBounds_toArray, List.set_cons_zero, List.set_cons_succ, i64_w, i32_w]
        rfl
      obtain ⟨Az, cz, rfl⟩ := Kd.R_slice hRz
      have hoz := (sz.block _ (blk_lt hO.out)).trans hO.out
      have y0 := (blk_cell hoz 1).trans rfl
      have z0 := blk_frozen hoz 1
      refine pure_ (i := 13) (N := some 34) (v := ?_) (a' := ?_) #[true, true, true, true, true, true, true, true, true, true, true, true, true, true, false] rfl rfl (by kernel_rfl) (fun _ _ _ h => h) (Or.inl ⟨by rfl, ?_⟩) ?_ ?_
      rotate_left
      · intro w'
        go_simp
        with_reducible rfl
      rotate_left
      · simp only [Act.put, List.setIfInBounds_toArray, List.set_cons_zero, List.set_cons_succ, i64_w, i32_w]
        rfl
      refine last_ (i := 14) (N := none) #[true, true, true, true, true, true, true, true, true, true, true, true, true, true, true] rfl rfl (by kernel_rfl) (by decide) (fun K hK => ?_)
      refine skip_ (w1 := ?_) (by rfl) rfl ?_ ?_
      rotate_left
      · go_simp
        with_reducible rfl
      refine hK.out _ _ ?_
      clear hK K
      refine done_ (by kernel_rfl) ?_
      have hRf := hid (Kd.R_set (Kd.R_mono hRz (fun _ _ => trivial) : (Kd.int .u64).R 23 _ _ (fun _ => True) _ _) hoz (by decide) 1 (.slice Az r1.length cz))
      have hbf := hid (below_set hbz hgo.out 1 (.slice Az r1.length cz))
      have hof := hid (blk_set hoz 1 (.slice Az r1.length cz))
      have hxf := hid ((Below.heap_setCell wz ⟨go, 1, none⟩ (.slice Az r1.length cz) w.heap.size (by show w.heap.size ≠ go; have := hgo2.out; omega)).trans ((sz.block _ (blk_lt hx.out)).trans hx.out))
      have hrf := hid ((Below.heap_setCell wz ⟨go, 1, none⟩ (.slice Az r1.length cz) (w.heap.size + 1) (by show w.heap.size + 1 ≠ go; have := hgo2.out; omega)).trans ((sz.block _ (blk_lt hr.out)).trans hr.out))
      go_wp2_with fail
      go_meet
      exact ⟨Az, cz, hRf, hbf, hxf, hrf, hof⟩
    case rest =>
      obtain ⟨w3, hw3⟩ : ∃ w3, w3 = wc := ⟨_, rfl⟩
      subst hw3
      clear hx hr hO hB  d0 d1 d2 d3 g0 g1 g2 g3
      obtain ⟨A5, c5, hR1, hB, hx, hr, hO⟩ := hcut
      have d0 : w3.cell? ⟨w.heap.size, 0, none⟩ = some (.bool false) := (blk_cell hx.out 0).trans rfl
      have d1 : w3.cell? ⟨w.heap.size, 1, none⟩ = some (.slice A1 keys.length c1) := (blk_cell hx.out 1).trans rfl
      have d2 : w3.cell? ⟨w.heap.size, 2, none⟩ = some (.slice A2 vals.length c2) := (blk_cell hx.out 2).trans rfl
      have d3 : w3.cell? ⟨w.heap.size, 3, none⟩ = some (.slice A3 kids.length c3) := (blk_cell hx.out 3).trans rfl
      have g0 : w3.cell? ⟨go, 0, none⟩ = some (.bool false) := (blk_cell hO.out 0).trans rfl
      have g1 : w3.cell? ⟨go, 1, none⟩ = some (.slice A5 r1.length c5) := (blk_cell hO.out 1).trans rfl
      have g2 : w3.cell? ⟨go, 2, none⟩ = some (.slice none 0 0) := (blk_cell hO.out 2).trans rfl
      have g3 : w3.cell? ⟨go, 3, none⟩ = some (.slice none 0 0) := (blk_cell hO.out 3).trans rfl
      go_upto_region 5 with fail
      skip
      go_cut [] (fun wy => ∃ (Az : Option Addr) (cz : Nat), Hid ((Kd.int .i64).R 3 wy w.heap.size (fun _ => True) (.slice Az r2.length cz) r2) ∧ Hid ((Kd.int .u64).R 23 wy w.heap.size (fun _ => True) (.slice A5 r1.length c5) r1) ∧ Hid (Below w.heap.size w wy) ∧ Hid (wy.heap[w.heap.size]? = some (.cells #[.bool false, .slice A1 keys.length c1, .slice A2 vals.length c2, .slice A3 kids.length c3] 36 (0, 0))) ∧ Hid (wy.heap[w.heap.size + 1]? = some (.cells #[.bool false, .slice none 0 0, .slice none 0 0, .slice none 0 0] 36 (0, 0))) ∧ Hid (wy.heap[go]? = some (.cells #[.bool false, .slice A5 r1.length c5, .slice none 0 0, .slice Az r2.length cz] 36 (0, 0))))
      case first =>
        refine start_ (n := 16) (S := fun w' => Below w3.heap.size w3 w') (ds := [15]) #[false, false, false, false, false, false, false, false, false, false, false, false, false, false, false, false] (by kernel_rfl) rfl rfl (below_drew (Below.refl _ _)) (fun hHeld => ?_)
        refine pure_ (i := 0) (N := some 35) (v := ?_) (a' := ?_) #[true, false, false, false, false, false, false, false, false, false, false, false, false, false, false, false] rfl rfl (by kernel_rfl) (fun _ _ _ h => h) (Or.inl ⟨by rfl, ?_⟩) ?_ ?_
        rotate_left
        · intro w'
          go_simp
          with_reducible rfl
        rotate_left
        · simp only [Act.put, List.setIfInBounds_toArray, List.set_cons_zero, List.set_cons_succ, i64_w, i32_w]
          rfl
        refine take_ (i := 1) (N := some 36) (v := ?_) (a' := ?_) #[true, true, false, false, false, false, false, false, false, false, false, false, false, false, false, false] rfl rfl (by kernel_rfl) (fun _ _ _ h => h) (Or.inl ⟨by rfl, ?_⟩) hHeld ?_ ?_
        rotate_left
        · rintro w' hb'
          have dd := pw_cell_below hb' g3
          go_simp
          with_reducible rfl
        rotate_left
        · simp only [Act.put, List.setIfInBounds_toArray, List.set_cons_zero, List.set_cons_succ, i64_w, i32_w]
          rfl
        refine pure_ (i := 2) (N := some 37) (v := ?_) (a' := ?_) #[true, true, true, false, false, false, false, false, false, false, false, false, false, false, false, false] rfl rfl (by kernel_rfl) (fun _ _ _ h => h) (Or.inl ⟨by rfl, ?_⟩) ?_ ?_
        rotate_left
        · intro w'
          go_simp
          with_reducible rfl
        rotate_left
        · simp only [Act.put, List.setIfInBounds_toArray, List.set_cons_zero, List.set_cons_succ, i64_w, i32_w]
          rfl
        refine take_ (i := 3) (N := some 38) (v := ?_) (a' := ?_) #[true, true, true, true, false, false, false, false, false, false, false, false, false, false, false, false] rfl rfl (by kernel_rfl) (fun _ _ _ h => h) (Or.inl ⟨by rfl, ?_⟩) hHeld ?_ ?_
        rotate_left
        · rintro w' hb'
          have dd := pw_cell_below hb' d3
          go_simp
          with_reducible rfl
        rotate_left
        · simp only [Act.put, List.setIfInBounds_toArray, List.set_cons_zero, List.set_cons_succ, i64_w, i32_w]
          rfl
        refine pure_ (i := 4) (N := some 39) (v := ?_) (a' := ?_) #[true, true, true, true, true, false, false, false, false, false, false, false, false, false, false, false] rfl rfl (by kernel_rfl) (fun _ _ _ h => h) (Or.inl ⟨by rfl, ?_⟩) ?_ ?_
        rotate_left
        · intro w'
          go_simp
          with_reducible rfl
        rotate_left
        · simp only [Act.put, List.setIfInBounds_toArray, List.set_cons_zero, List.set_cons_succ, i64_w, i32_w]
          rfl
        refine pure_ (i := 5) (N := some 40) (v := ?_) (a' := ?_) #[true, true, true, true, true, true, false, false, false, false, false, false, false, false, false, false] rfl rfl (by kernel_rfl) (fun _ _ _ h => h) (Or.inl ⟨by rfl, ?_⟩) ?_ ?_
        rotate_left
        · intro w'
          go_simp
          with_reducible rfl
        rotate_left
        · simp only [Act.put, List.setIfInBounds_toArray, List.set_cons_zero, List.set_cons_succ, i64_w, i32_w]
          rfl
        refine pure_ (i := 6) (N := some 41) (v := ?_) (a' := ?_) #[true, true, true, true, true, true, true, false, false, false, false, false, false, false, false, false] rfl rfl (by kernel_rfl) (fun _ _ _ h => h) (Or.inl ⟨by rfl, ?_⟩) ?_ ?_
        rotate_left
        · intro w'
          go_simp
          with_reducible rfl
        rotate_left
        · simp only [Act.put, List.setIfInBounds_toArray, List.set_cons_zero, List.set_cons_succ, i64_w, i32_w]
          rfl
        refine pure_ (i := 8) (N := some 43) (v := ?_) (a' := ?_) #[true, true, true, true, true, true, true, false, true, false, false, false, false, false, false, false] rfl rfl (by kernel_rfl) (fun _ _ _ h => h) (Or.inl ⟨by rfl, ?_⟩) ?_ ?_
        rotate_left
        · intro w'
          go_simp
          with_reducible rfl
        rotate_left
        · simp only [Act.put, List.setIfInBounds_toArray, List.set_cons_zero, List.set_cons_succ, i64_w, i32_w]
          rfl
        refine take_ (i := 9) (N := some 44) (v := ?_) (a' := ?_) #[true, true, true, true, true, true, true, false, true, true, false, false, false, false, false, false] rfl rfl (by kernel_rfl) (fun _ _ _ h => h) (Or.inl ⟨by rfl, ?_⟩) hHeld ?_ ?_
        rotate_left
        · rintro w' hb'
          have dd := pw_cell_below hb' d3
          go_simp
          with_reducible rfl
        rotate_left
        · simp only [Act.put, List.setIfInBounds_toArray, List.set_cons_zero, List.set_cons_succ, i64_w, i32_w]
          rfl
        refine pure_ (i := 10) (N := some 45) (v := ?_) (a' := ?_) #[true, true, true, true, true, true, true, false, true, true, true, false, false, false, false, false] rfl rfl (by kernel_rfl) (fun _ _ _ h => h) (Or.inl ⟨by rfl, ?_⟩) ?_ ?_
        rotate_left
        · intro w'
          go_simp
          with_reducible rfl
        rotate_left
        · simp only [Act.put, List.setIfInBounds_toArray, List.set_cons_zero, List.set_cons_succ, i64_w, i32_w]
          rfl
        refine pure_ (i := 11) (N := some 46) (v := ?_) (a' := ?_) #[true, true, true, true, true, true, true, false, true, true, true, true, false, false, false, false] rfl rfl (by kernel_rfl) (fun _ _ _ h => h) (Or.inl ⟨by rfl, ?_⟩) ?_ ?_
        rotate_left
        · intro w'
          go_simp
          with_reducible rfl
        rotate_left
        · simp only [Act.put, List.setIfInBounds_toArray, List.set_cons_zero, List.set_cons_succ, i64_w, i32_w]
          rfl
        refine pure_ (i := 12) (N := some 47) (v := ?_) (a' := ?_) #[true, true, true, true, true, true, true, false, true, true, true, true, true, false, false, false] rfl rfl (by kernel_rfl) (fun _ _ _ h => h) (Or.inl ⟨by rfl, ?_⟩) ?_ ?_
        rotate_left
        · intro w'
          go_simp
          with_reducible rfl
        rotate_left
        · simp only [Act.put, List.setIfInBounds_toArray, List.set_cons_zero, List.set_cons_succ, i64_w, i32_w]
          rfl
        refine one_ (i := 7) (N := some 42) #[true, true, true, true, true, true, true, true, true, true, true, true, true, false, false, false] rfl rfl (by kernel_rfl) (by decide) (fun K hK => ?_)
        refine app_ (Value.int .i64) rfl (by rfl) _ _ 27 3 (.int .i64 0) 8 rfl Try.underlying27 (by kernel_rfl) rfl (by decide) (.slice none 0 0) [] X2 A3 _ c3 (fun k => w3.heap.size ≤ k) (by rfl) (by rfl) (fun k hk => Nat.le_trans (below_drew (Below.refl w3.heap.size w3)).size hk) (Kd.R_nil _ _ _ _ _) (HX2.out _ (below_drew hB.out)) (below_drew hB.out) (by have h := hn2.out; simp only [List.length_nil]; omega) ?_
        intro va wa hRa hba hga _
        rw [List.nil_append] at hRa
        have sa := below_then (below_drew (Below.refl w3.heap.size w3)) (below_drew (Below.refl w3.heap.size w3)).size (grown_self hga rfl)
        refine hK.out _ _ sa (fun hHeld => ?_)
        clear hK K
        refine norm_ (a' := ?_) ?_ ?_
        rotate_left
        · show Act.put _ (some 42) _ = _
          simp only [Act.put, List.setIfInBounds_toArray, List.set_cons_zero, List.set_cons_succ, i64_w, i32_w]
          rfl
        refine one_ (i := 13) (N := some 48) #[true, true, true, true, true, true, true, true, true, true, true, true, true, true, false, false] rfl rfl (by kernel_rfl) (by decide) (fun K hK => ?_)
        refine app_ (Value.int .i64) rfl (by rfl) _ _ 27 3 (.int .i64 0) 8 rfl Try.underlying27 (by kernel_rfl) rfl (by decide) va X2 Y2 Bk2 _ (c3 - kb) (fun k => w3.heap.size ≤ k) (by rfl) (by rfl) (fun k hk => Nat.le_trans sa.size hk) hRa (HY2.out _ hba) hba (by have h := hn2.out; (try simp only [List.length_append, List.length_singleton]); omega) ?_
        intro vz wz hRz hbz hgz _
        rw [hr2.out] at hRz
        have sz := sa.grown hgz sa.size (fun k hk => hRa.1 k hk)
        refine hK.out _ _ sz (fun hHeld => ?_)
        clear hK K
        refine norm_ (a' := ?_) ?_ ?_
        rotate_left
        · show Act.put _ (some 48) _ = _
          simp only [Act.put, List.setIfInBounds_toArray, List.set_cons_zero, List.set_cons_succ, i64_w, i32_w]
          rfl
        obtain ⟨Az, cz, rfl⟩ := Kd.R_slice hRz
        have hoz := (sz.block _ (blk_lt hO.out)).trans hO.out
        have y0 := (blk_cell hoz 3).trans rfl
        have z0 := blk_frozen hoz 3
        refine pure_ (i := 14) (N := some 49) (v := ?_) (a' := ?_) #[true, true, true, true, true, true, true, true, true, true, true, true, true, true, true, false] rfl rfl (by kernel_rfl) (fun _ _ _ h => h) (Or.inl ⟨by rfl, ?_⟩) ?_ ?_
        rotate_left
        · intro w'
          go_simp
          with_reducible rfl
        rotate_left
        · simp only [Act.put, List.setIfInBounds_toArray, List.set_cons_zero, List.set_cons_succ, i64_w, i32_w]
          rfl
        refine last_ (i := 15) (N := none) #[true, true, true, true, true, true, true, true, true, true, true, true, true, true, true, true] rfl rfl (by kernel_rfl) (by decide) (fun K hK => ?_)
        refine skip_ (w1 := ?_) (by rfl) rfl ?_ ?_
        rotate_left
        · go_simp
          with_reducible rfl
        refine hK.out _ _ ?_
        clear hK K
        refine done_ (by kernel_rfl) ?_
        have hRf := hid (Kd.R_set (Kd.R_mono hRz (fun _ _ => trivial) : (Kd.int .i64).R 3 _ _ (fun _ => True) _ _) hoz (by decide) 3 (.slice Az r2.length cz))
        have hbf := hid (below_set hbz hgo.out 3 (.slice Az r2.length cz))
        have hof := hid (blk_set hoz 3 (.slice Az r2.length cz))
        have hxf := hid ((Below.heap_setCell wz ⟨go, 3, none⟩ (.slice Az r2.length cz) w.heap.size (by show w.heap.size ≠ go; have := hgo2.out; omega)).trans ((sz.block _ (blk_lt hx.out)).trans hx.out))
        have hrf := hid ((Below.heap_setCell wz ⟨go, 3, none⟩ (.slice Az r2.length cz) (w.heap.size + 1) (by show w.heap.size + 1 ≠ go; have := hgo2.out; omega)).trans ((sz.block _ (blk_lt hr.out)).trans hr.out))
        have hRp1 := hid (Kd.R_set (Kd.R_below hR1.out sz) hoz (by decide) 3 (.slice Az r2.length cz))
        go_wp2_with fail
        go_meet
        exact ⟨Az, cz, hRf, hRp1, hbf, hxf, hrf, hof⟩
      case rest =>
        clear hx hr hO hB hR1 d0 d1 d2 d3 g0 g1 g2 g3
        obtain ⟨A6, c6, hR2, hR1, hB, hx, hr, hO⟩ := hcut
        have g0 : wc.cell? ⟨go, 0, none⟩ = some (.bool false) := (blk_cell hO.out 0).trans rfl
        have g1 : wc.cell? ⟨go, 1, none⟩ = some (.slice A5 r1.length c5) := (blk_cell hO.out 1).trans rfl
        have g2 : wc.cell? ⟨go, 2, none⟩ = some (.slice none 0 0) := (blk_cell hO.out 2).trans rfl
        have g3 : wc.cell? ⟨go, 3, none⟩ = some (.slice A6 r2.length c6) := (blk_cell hO.out 3).trans rfl
        have e0 : wc.cell? ⟨w.heap.size + 1, 0, none⟩ = some (.bool false) := (blk_cell hr.out 0).trans rfl
        have f0 := blk_frozen (w := wc) hr.out 0
        have e1 : wc.cell? ⟨w.heap.size + 1, 1, none⟩ = some (.slice none 0 0) := (blk_cell hr.out 1).trans rfl
        have f1 := blk_frozen (w := wc) hr.out 1
        have e2 : wc.cell? ⟨w.heap.size + 1, 2, none⟩ = some (.slice none 0 0) := (blk_cell hr.out 2).trans rfl
        have f2 := blk_frozen (w := wc) hr.out 2
        have e3 : wc.cell? ⟨w.heap.size + 1, 3, none⟩ = some (.slice none 0 0) := (blk_cell hr.out 3).trans rfl
        have f3 := blk_frozen (w := wc) hr.out 3
        have hZ := hid (set4_at hr.out (.bool false) (.slice A5 r1.length c5) (.slice none 0 0) (.slice A6 r2.length c6))
        have hb := hid (set4_below hB.out (Nat.le_succ _) (.bool false) (.slice A5 r1.length c5) (.slice none 0 0) (.slice A6 r2.length c6))
        obtain ⟨-, l1', C1'⟩ := Kd.R_reads' (R_set4 hR1.out hr.out (by decide) (.bool false) (.slice A5 r1.length c5) (.slice none 0 0) (.slice A6 r2.length c6))
        replace l1' := hid l1'
        replace C1' := hid C1'
        obtain ⟨-, l2', C2'⟩ := Kd.R_reads' (R_set4 hR2.out hr.out (by decide) (.bool false) (.slice A5 r1.length c5) (.slice none 0 0) (.slice A6 r2.length c6))
        replace l2' := hid l2'
        replace C2' := hid C2'
        go_wp2_with fail
        refine bodyPost_ret (results_cell_row rfl _ _ (w.heap.size + 1) 36 #[.bool false, .slice A5 r1.length c5, .slice none 0 0, .slice A6 r2.length c6] (0, 0) _ rfl hZ.out Try.underlying36 rfl (by kernel_rfl)) rfl ?_
        exact ⟨_, rfl, At.mk_ (x := ⟨false, r1, [], r2⟩) C1'.out l1'.out (Kd.C_nil _ _) (Nat.le_refl _) C2'.out l2'.out, hb.out⟩
set_option maxHeartbeats 1000000 in
set_option maxRecDepth 100000 in
theorem rhang_walk (x : Nd) (v : Value) (i key kid : Int) (w : World) (P : PlainNd x) (H : At w v x) (k1 : x.keys.length ≤ 1099511627776) (k2 : x.vals.length ≤ 1099511627776) (k3 : x.kids.length ≤ 1099511627776) :
    Calls Try.prog 28 #[v, .int .i64 i, .int .u64 key, .int .i64 kid] w fun e w' => ∃ v', e = .returned v' ∧ At w' v' (hangF x i key kid) ∧ Below w.heap.size w w' := by
  have P1 := hid P.leaf
  have P2 := hid P.branch
  clear P
  obtain ⟨A1, c1, A2, c2, A3, c3, rfl, ⟨h1, l1⟩, ⟨h2, l2⟩, ⟨h3, l3⟩⟩ := H
  obtain ⟨leaf, keys, vals, kids⟩ := x
  simp only at h1 l1 h2 l2 h3 l3 ⊢
  have hx : Hid (((w.alloc (.cells #[.bool leaf, .slice A1 keys.length c1, .slice A2 vals.length c2, .slice A3 kids.length c3] 36)).alloc (.cells #[.bool false, .slice none 0 0, .slice none 0 0, .slice none 0 0] 36)).heap[w.heap.size]? = some (.cells #[.bool leaf, .slice A1 keys.length c1, .slice A2 vals.length c2, .slice A3 kids.length c3] 36 (0, 0))) := hid (alloc2_fst w _ _)
  have hr : Hid (((w.alloc (.cells #[.bool leaf, .slice A1 keys.length c1, .slice A2 vals.length c2, .slice A3 kids.length c3] 36)).alloc (.cells #[.bool false, .slice none 0 0, .slice none 0 0, .slice none 0 0] 36)).heap[w.heap.size + 1]? = some (.cells #[.bool false, .slice none 0 0, .slice none 0 0, .slice none 0 0] 36 (0, 0))) := hid (alloc2_snd w _ _)
  have hB := hid (below_alloc (below_alloc (Below.refl w.heap.size w) (.cells #[.bool leaf, .slice A1 keys.length c1, .slice A2 vals.length c2, .slice A3 kids.length c3] 36)) (.cells #[.bool false, .slice none 0 0, .slice none 0 0, .slice none 0 0] 36))
  simp only at k1 k2 k3 P1 P2
  replace h1 := hid h1
  replace h2 := hid h2
  replace h3 := hid h3
  replace l1 := hid l1
  replace l2 := hid l2
  replace l3 := hid l3
  rw [hangF]
  simp only
  by_cases hc : ¬ leaf = false
  · obtain rfl : leaf = true := by simpa using hc
    rw [if_neg (by simp)]
    go_enter Try.func28, Try.ntmps28
    go_upto_region 1 with fail
    generalize (w.alloc (.cells #[.bool true, .slice A1 keys.length c1, .slice A2 vals.length c2, .slice A3 kids.length c3] 36)).alloc (.cells #[.bool false, .slice none 0 0, .slice none 0 0, .slice none 0 0] 36) = w1 at *
    have d0 : w1.cell? ⟨w.heap.size, 0, none⟩ = some (.bool true) := (blk_cell hx.out 0).trans rfl
    have d1 : w1.cell? ⟨w.heap.size, 1, none⟩ = some (.slice A1 keys.length c1) := (blk_cell hx.out 1).trans rfl
    have d2 : w1.cell? ⟨w.heap.size, 2, none⟩ = some (.slice A2 vals.length c2) := (blk_cell hx.out 2).trans rfl
    have d3 : w1.cell? ⟨w.heap.size, 3, none⟩ = some (.slice A3 kids.length c3) := (blk_cell hx.out 3).trans rfl
    have e0 : w1.cell? ⟨w.heap.size + 1, 0, none⟩ = some (.bool false) := (blk_cell hr.out 0).trans rfl
    have f0 := blk_frozen (w := w1) hr.out 0
    have e1 : w1.cell? ⟨w.heap.size + 1, 1, none⟩ = some (.slice none 0 0) := (blk_cell hr.out 1).trans rfl
    have f1 := blk_frozen (w := w1) hr.out 1
    have e2 : w1.cell? ⟨w.heap.size + 1, 2, none⟩ = some (.slice none 0 0) := (blk_cell hr.out 2).trans rfl
    have f2 := blk_frozen (w := w1) hr.out 2
    have e3 : w1.cell? ⟨w.heap.size + 1, 3, none⟩ = some (.slice none 0 0) := (blk_cell hr.out 3).trans rfl
    have f3 := blk_frozen (w := w1) hr.out 3
    have hZ := hid (blk_set (blk_set (blk_set (blk_set hr.out 0 (.bool true)) 1 (.slice A1 keys.length c1)) 2 (.slice A2 vals.length c2)) 3 (.slice A3 kids.length c3))
    have hb := hid (below_set (below_set (below_set (below_set hB.out (Nat.le_succ _) 0 (.bool true)) (Nat.le_succ _) 1 (.slice A1 keys.length c1)) (Nat.le_succ _) 2 (.slice A2 vals.length c2)) (Nat.le_succ _) 3 (.slice A3 kids.length c3))
    go_wp2_with fail
    refine bodyPost_ret (results_cell_row rfl _ _ (w.heap.size + 1) 36 #[.bool true, .slice A1 keys.length c1, .slice A2 vals.length c2, .slice A3 kids.length c3] (0, 0) _ rfl hZ.out Try.underlying36 rfl (by kernel_rfl)) rfl ?_
    exact ⟨_, rfl, At.mk_ (x := ⟨true, keys, vals, kids⟩) (Kd.C_below h1.out hb.out) l1.out (Kd.C_below h2.out hb.out) l2.out (Kd.C_below h3.out hb.out) l3.out, hb.out⟩
  obtain rfl : leaf = false := by simpa using hc
  clear hc
  by_cases q1 : ¬ (0 ≤ i ∧ i ≤ (keys.length : Int))
  · rw [if_neg (by simpa using q1)]
    have q2 : i < 0 ∨ (¬ i < 0 ∧ (keys.length : Int) < i) := by omega
    clear k1 k2 k3 q1
    rcases q2 with q2 | ⟨q2, q3⟩
    · go_enter Try.func28, Try.ntmps28
      go_upto_region 1 with fail
      generalize (w.alloc (.cells #[.bool false, .slice A1 keys.length c1, .slice A2 vals.length c2, .slice A3 kids.length c3] 36)).alloc (.cells #[.bool false, .slice none 0 0, .slice none 0 0, .slice none 0 0] 36) = w1 at *
      have d0 : w1.cell? ⟨w.heap.size, 0, none⟩ = some (.bool false) := (blk_cell hx.out 0).trans rfl
      have d1 : w1.cell? ⟨w.heap.size, 1, none⟩ = some (.slice A1 keys.length c1) := (blk_cell hx.out 1).trans rfl
      have d2 : w1.cell? ⟨w.heap.size, 2, none⟩ = some (.slice A2 vals.length c2) := (blk_cell hx.out 2).trans rfl
      have d3 : w1.cell? ⟨w.heap.size, 3, none⟩ = some (.slice A3 kids.length c3) := (blk_cell hx.out 3).trans rfl
      have e0 : w1.cell? ⟨w.heap.size + 1, 0, none⟩ = some (.bool false) := (blk_cell hr.out 0).trans rfl
      have f0 := blk_frozen (w := w1) hr.out 0
      have e1 : w1.cell? ⟨w.heap.size + 1, 1, none⟩ = some (.slice none 0 0) := (blk_cell hr.out 1).trans rfl
      have f1 := blk_frozen (w := w1) hr.out 1
      have e2 : w1.cell? ⟨w.heap.size + 1, 2, none⟩ = some (.slice none 0 0) := (blk_cell hr.out 2).trans rfl
      have f2 := blk_frozen (w := w1) hr.out 2
      have e3 : w1.cell? ⟨w.heap.size + 1, 3, none⟩ = some (.slice none 0 0) := (blk_cell hr.out 3).trans rfl
      have f3 := blk_frozen (w := w1) hr.out 3
      have hZ := hid (blk_set (blk_set (blk_set (blk_set hr.out 0 (.bool false)) 1 (.slice A1 keys.length c1)) 2 (.slice A2 vals.length c2)) 3 (.slice A3 kids.length c3))
      have hb := hid (below_set (below_set (below_set (below_set hB.out (Nat.le_succ _) 0 (.bool false)) (Nat.le_succ _) 1 (.slice A1 keys.length c1)) (Nat.le_succ _) 2 (.slice A2 vals.length c2)) (Nat.le_succ _) 3 (.slice A3 kids.length c3))
      go_wp2_with fail
      refine bodyPost_ret (results_cell_row rfl _ _ (w.heap.size + 1) 36 #[.bool false, .slice A1 keys.length c1, .slice A2 vals.length c2, .slice A3 kids.length c3] (0, 0) _ rfl hZ.out Try.underlying36 rfl (by kernel_rfl)) rfl ?_
      exact ⟨_, rfl, At.mk_ (x := ⟨false, keys, vals, kids⟩) (Kd.C_below h1.out hb.out) l1.out (Kd.C_below h2.out hb.out) l2.out (Kd.C_below h3.out hb.out) l3.out, hb.out⟩
    · go_enter Try.func28, Try.ntmps28
      go_upto_region 1 with fail
      generalize (w.alloc (.cells #[.bool false, .slice A1 keys.length c1, .slice A2 vals.length c2, .slice A3 kids.length c3] 36)).alloc (.cells #[.bool false, .slice none 0 0, .slice none 0 0, .slice none 0 0] 36) = w1 at *
      have d0 : w1.cell? ⟨w.heap.size, 0, none⟩ = some (.bool false) := (blk_cell hx.out 0).trans rfl
      have d1 : w1.cell? ⟨w.heap.size, 1, none⟩ = some (.slice A1 keys.length c1) := (blk_cell hx.out 1).trans rfl
      have d2 : w1.cell? ⟨w.heap.size, 2, none⟩ = some (.slice A2 vals.length c2) := (blk_cell hx.out 2).trans rfl
      have d3 : w1.cell? ⟨w.heap.size, 3, none⟩ = some (.slice A3 kids.length c3) := (blk_cell hx.out 3).trans rfl
      have e0 : w1.cell? ⟨w.heap.size + 1, 0, none⟩ = some (.bool false) := (blk_cell hr.out 0).trans rfl
      have f0 := blk_frozen (w := w1) hr.out 0
      have e1 : w1.cell? ⟨w.heap.size + 1, 1, none⟩ = some (.slice none 0 0) := (blk_cell hr.out 1).trans rfl
      have f1 := blk_frozen (w := w1) hr.out 1
      have e2 : w1.cell? ⟨w.heap.size + 1, 2, none⟩ = some (.slice none 0 0) := (blk_cell hr.out 2).trans rfl
      have f2 := blk_frozen (w := w1) hr.out 2
      have e3 : w1.cell? ⟨w.heap.size + 1, 3, none⟩ = some (.slice none 0 0) := (blk_cell hr.out 3).trans rfl
      have f3 := blk_frozen (w := w1) hr.out 3
      have hZ := hid (blk_set (blk_set (blk_set (blk_set hr.out 0 (.bool false)) 1 (.slice A1 keys.length c1)) 2 (.slice A2 vals.length c2)) 3 (.slice A3 kids.length c3))
      have hb := hid (below_set (below_set (below_set (below_set hB.out (Nat.le_succ _) 0 (.bool false)) (Nat.le_succ _) 1 (.slice A1 keys.length c1)) (Nat.le_succ _) 2 (.slice A2 vals.length c2)) (Nat.le_succ _) 3 (.slice A3 kids.length c3))
      go_wp2_with fail
      refine bodyPost_ret (results_cell_row rfl _ _ (w.heap.size + 1) 36 #[.bool false, .slice A1 keys.length c1, .slice A2 vals.length c2, .slice A3 kids.length c3] (0, 0) _ rfl hZ.out Try.underlying36 rfl (by kernel_rfl)) rfl ?_
      exact ⟨_, rfl, At.mk_ (x := ⟨false, keys, vals, kids⟩) (Kd.C_below h1.out hb.out) l1.out (Kd.C_below h2.out hb.out) l2.out (Kd.C_below h3.out hb.out) l3.out, hb.out⟩
  · replace q1 := Classical.not_not.1 q1
    rw [if_pos ⟨rfl, q1⟩]
    obtain ⟨k, rfl⟩ := Int.eq_ofNat_of_zero_le q1.1
    rw [Int.toNat_natCast]
    have q2 : ¬ ((k : Int) < 0) := by omega
    have q3 : ¬ ((keys.length : Int) < (k : Int)) := by omega
    have hvl : kids.length = keys.length + 1 := (P2.out rfl).1
    obtain ⟨ka, hka⟩ : ∃ ka, ka = k + 1 := ⟨_, rfl⟩
    obtain ⟨kb, hkb⟩ : ∃ kb, kb = k + 1 + 1 := ⟨_, rfl⟩
    have qw : wrap64 ((k : Int) + 1) = (ka : Int) := by unfold wrap64; omega
    rw [show laidF keys [key] k 0 = keys.take k ++ [key] ++ keys.drop k by unfold laidF; rw [Nat.add_zero], show laidF kids [kid] (k + 1) 0 = kids.take (k + 1) ++ [kid] ++ kids.drop (k + 1) by unfold laidF; rw [Nat.add_zero], ← hka]
    have hin1 : (Try.prog.info? 23).map (fun i => i.size) = some 1 := by kernel_rfl
    obtain ⟨i1, hi1, hsz1⟩ := Option.map_eq_some_iff.1 hin1
    have hF1 := front_C 25 23 Try.underlying25 hi1 A1 keys c1 k (by omega) l1.out
    obtain ⟨Bk1, hK1, hC1⟩ := back_C (Kd.int .u64) rfl 25 23 Try.underlying25 hi1 hsz1 A1 keys c1 k (by omega) l1.out
    have HX1 := hid (fun W (hb : Below w.heap.size w W) => Kd.C_below (Kd.C_take h1.out (m := k) (by omega)) hb)
    have HY1 := hid (fun W (hb : Below w.heap.size w W) => Kd.C_below (hC1 w h1.out) hb)
    have hn1 : Hid (((keys.take k).length + 1 + (keys.drop k).length) * 8 ≤ 140737488355328) := hid (by rw [List.length_take, List.length_drop]; omega)
    clear hin1 hi1 hsz1 hC1
    generalize keys.take k = X1 at *
    generalize keys.drop k = Y1 at *
    obtain ⟨r1, hr1⟩ : ∃ r, X1 ++ [key] ++ Y1 = r := ⟨_, rfl⟩
    have hin2 : (Try.prog.info? 3).map (fun i => i.size) = some 1 := by kernel_rfl
    obtain ⟨i2, hi2, hsz2⟩ := Option.map_eq_some_iff.1 hin2
    have hF2 := front_C 27 3 Try.underlying27 hi2 A3 kids c3 ka (by omega) l3.out
    obtain ⟨Bk2, hK2, hC2⟩ := back_C (Kd.int .i64) rfl 27 3 Try.underlying27 hi2 hsz2 A3 kids c3 ka (by omega) l3.out
    have HX2 := hid (fun W (hb : Below w.heap.size w W) => Kd.C_below (Kd.C_take h3.out (m := ka) (by omega)) hb)
    have HY2 := hid (fun W (hb : Below w.heap.size w W) => Kd.C_below (hC2 w h3.out) hb)
    have hn2 : Hid (((kids.take ka).length + 1 + (kids.drop ka).length) * 8 ≤ 140737488355328) := hid (by rw [List.length_take, List.length_drop]; omega)
    clear hin2 hi2 hsz2 hC2
    generalize kids.take ka = X2 at *
    generalize kids.drop ka = Y2 at *
    obtain ⟨r2, hr2⟩ : ∃ r, X2 ++ [kid] ++ Y2 = r := ⟨_, rfl⟩
    rw [hr1, hr2]
    replace hvl := hid hvl
    replace hka := hid hka
    replace hkb := hid hkb
    replace hr1 := hid hr1
    replace hr2 := hid hr2
    clear k1 k2 k3 q1 P1 P2
    go_enter Try.func28, Try.ntmps28
    go_upto_region 1 with fail
    generalize (w.alloc (.cells #[.bool false, .slice A1 keys.length c1, .slice A2 vals.length c2, .slice A3 kids.length c3] 36)).alloc (.cells #[.bool false, .slice none 0 0, .slice none 0 0, .slice none 0 0] 36) = w1 at *
    have d0 : w1.cell? ⟨w.heap.size, 0, none⟩ = some (.bool false) := (blk_cell hx.out 0).trans rfl
    have d1 : w1.cell? ⟨w.heap.size, 1, none⟩ = some (.slice A1 keys.length c1) := (blk_cell hx.out 1).trans rfl
    have d2 : w1.cell? ⟨w.heap.size, 2, none⟩ = some (.slice A2 vals.length c2) := (blk_cell hx.out 2).trans rfl
    have d3 : w1.cell? ⟨w.heap.size, 3, none⟩ = some (.slice A3 kids.length c3) := (blk_cell hx.out 3).trans rfl
    have e0 : w1.cell? ⟨w.heap.size + 1, 0, none⟩ = some (.bool false) := (blk_cell hr.out 0).trans rfl
    have f0 := blk_frozen (w := w1) hr.out 0
    have e1 : w1.cell? ⟨w.heap.size + 1, 1, none⟩ = some (.slice none 0 0) := (blk_cell hr.out 1).trans rfl
    have f1 := blk_frozen (w := w1) hr.out 1
    have e2 : w1.cell? ⟨w.heap.size + 1, 2, none⟩ = some (.slice none 0 0) := (blk_cell hr.out 2).trans rfl
    have f2 := blk_frozen (w := w1) hr.out 2
    have e3 : w1.cell? ⟨w.heap.size + 1, 3, none⟩ = some (.slice none 0 0) := (blk_cell hr.out 3).trans rfl
    have f3 := blk_frozen (w := w1) hr.out 3
    have hO := hid (show (w1.alloc (.cells #[.bool false, .slice none 0 0, .slice none 0 0, .slice none 0 0] 36)).heap[w1.heap.size]? = some (.cells #[.bool false, .slice none 0 0, .slice none 0 0, .slice none 0 0] 36 (0, 0)) from Array.getElem?_push_size)
    have hx2 := hid ((Below.heap_alloc w1 (.cells #[.bool false, .slice none 0 0, .slice none 0 0, .slice none 0 0] 36) w.heap.size (blk_lt hx.out)).trans hx.out)
    have hr2' := hid ((Below.heap_alloc w1 (.cells #[.bool false, .slice none 0 0, .slice none 0 0, .slice none 0 0] 36) (w.heap.size + 1) (blk_lt hr.out)).trans hr.out)
    have hB2 := hid (below_alloc hB.out (.cells #[.bool false, .slice none 0 0, .slice none 0 0, .slice none 0 0] 36))
    have hgo := hid (show w.heap.size ≤ w1.heap.size from Nat.le_of_lt (Nat.lt_of_le_of_lt (Nat.le_succ _) (blk_lt hr.out)))
    have hgo2 := hid (show w.heap.size + 1 < w1.heap.size from blk_lt hr.out)
    go_upto_region 4 with fail
    clear d0 d1 d2 d3 e0 e1 e2 e3 f0 f1 f2 f3 hx hr hB
    generalize w1.alloc (.cells #[.bool false, .slice none 0 0, .slice none 0 0, .slice none 0 0] 36) = w2 at *
    generalize w1.heap.size = go at *
    have hx := hx2
    have hr := hr2'
    have hB := hB2
    clear hx2 hr2' hB2
    have d0 : w2.cell? ⟨w.heap.size, 0, none⟩ = some (.bool false) := (blk_cell hx.out 0).trans rfl
    have d1 : w2.cell? ⟨w.heap.size, 1, none⟩ = some (.slice A1 keys.length c1) := (blk_cell hx.out 1).trans rfl
    have d2 : w2.cell? ⟨w.heap.size, 2, none⟩ = some (.slice A2 vals.length c2) := (blk_cell hx.out 2).trans rfl
    have d3 : w2.cell? ⟨w.heap.size, 3, none⟩ = some (.slice A3 kids.length c3) := (blk_cell hx.out 3).trans rfl
    have g0 : w2.cell? ⟨go, 0, none⟩ = some (.bool false) := (blk_cell hO.out 0).trans rfl
    have g1 : w2.cell? ⟨go, 1, none⟩ = some (.slice none 0 0) := (blk_cell hO.out 1).trans rfl
    have g2 : w2.cell? ⟨go, 2, none⟩ = some (.slice none 0 0) := (blk_cell hO.out 2).trans rfl
    have g3 : w2.cell? ⟨go, 3, none⟩ = some (.slice none 0 0) := (blk_cell hO.out 3).trans rfl
    go_upto_region 4 with fail
    go_cut [] (fun wx => ∃ (Az : Option Addr) (cz : Nat), Hid ((Kd.int .u64).R 23 wx w.heap.size (fun _ => True) (.slice Az r1.length cz) r1) ∧ Hid (Below w.heap.size w wx) ∧ Hid (wx.heap[w.heap.size]? = some (.cells #[.bool false, .slice A1 keys.length c1, .slice A2 vals.length c2, .slice A3 kids.length c3] 36 (0, 0))) ∧ Hid (wx.heap[w.heap.size + 1]? = some (.cells #[.bool false, .slice none 0 0, .slice none 0 0, .slice none 0 0] 36 (0, 0))) ∧ Hid (wx.heap[go]? = some (.cells #[.bool false, .slice Az r1.length cz, .slice none 0 0, .slice none 0 0] 36 (0, 0))))
    case first =>
      refine start_ (n := 17) (S := fun w' => Below w2.heap.size w2 w') (ds := [16]) #[false, false, false, false, false, false, false, false, false, false, false, false, false, false, false, false, false] (by kernel_rfl) rfl rfl (below_drew (Below.refl _ _)) (fun hHeld => ?_)
      refine pure_ (i := 0) (N := some 25) (v := ?_) (a' := ?_) #[true, false, false, false, false, false, false, false, false, false, false, false, false, false, false, false, false] rfl rfl (by kernel_rfl) (fun _ _ _ h => h) (Or.inl ⟨by rfl, ?_⟩) ?_ ?_
      rotate_left
      · intro w'
        go_simp
        with_reducible rfl
      rotate_left
      · simp only [Act.put, List.setIfInBounds_toArray, List.set_cons_zero, List.set_cons_succ, i64_w, i32_w]
        rfl
      refine take_ (i := 1) (N := some 26) (v := ?_) (a' := ?_) #[true, true, false, false, false, false, false, false, false, false, false, false, false, false, false, false, false] rfl rfl (by kernel_rfl) (fun _ _ _ h => h) (Or.inl ⟨by rfl, ?_⟩) hHeld ?_ ?_
      rotate_left
      · rintro w' hb'
        have dd := pw_cell_below hb' g1
        go_simp
        with_reducible rfl
      rotate_left
      · simp only [Act.put, List.setIfInBounds_toArray, List.set_cons_zero, List.set_cons_succ, i64_w, i32_w]
        rfl
      refine pure_ (i := 2) (N := some 27) (v := ?_) (a' := ?_) #[true, true, true, false, false, false, false, false, false, false, false, false, false, false, false, false, false] rfl rfl (by kernel_rfl) (fun _ _ _ h => h) (Or.inl ⟨by rfl, ?_⟩) ?_ ?_
      rotate_left
      · intro w'
        go_simp
        with_reducible rfl
      rotate_left
      · simp only [Act.put, List.setIfInBounds_toArray, List.set_cons_zero, List.set_cons_succ, i64_w, i32_w]
        rfl
      refine take_ (i := 3) (N := some 28) (v := ?_) (a' := ?_) #[true, true, true, true, false, false, false, false, false, false, false, false, false, false, false, false, false] rfl rfl (by kernel_rfl) (fun _ _ _ h => h) (Or.inl ⟨by rfl, ?_⟩) hHeld ?_ ?_
      rotate_left
      · rintro w' hb'
        have dd := pw_cell_below hb' d1
        go_simp
        with_reducible rfl
      rotate_left
      · simp only [Act.put, List.setIfInBounds_toArray, List.set_cons_zero, List.set_cons_succ, i64_w, i32_w]
        rfl
      refine pure_ (i := 4) (N := some 29) (v := ?_) (a' := ?_) #[true, true, true, true, true, false, false, false, false, false, false, false, false, false, false, false, false] rfl rfl (by kernel_rfl) (fun _ _ _ h => h) (Or.inl ⟨by rfl, ?_⟩) ?_ ?_
      rotate_left
      · intro w'
        go_simp
        with_reducible rfl
      rotate_left
      · simp only [Act.put, List.setIfInBounds_toArray, List.set_cons_zero, List.set_cons_succ, i64_w, i32_w]
        rfl
      refine pure_ (i := 5) (N := some 30) (v := ?_) (a' := ?_) #[true, true, true, true, true, true, false, false, false, false, false, false, false, false, false, false, false] rfl rfl (by kernel_rfl) (fun _ _ _ h => h) (Or.inl ⟨by rfl, ?_⟩) ?_ ?_
      rotate_left
      · intro w'
        go_simp
        with_reducible rfl
      rotate_left
      · simp only [Act.put, List.setIfInBounds_toArray, List.set_cons_zero, List.set_cons_succ, i64_w, i32_w]
        rfl
      refine pure_ (i := 7) (N := some 32) (v := ?_) (a' := ?_) #[true, true, true, true, true, true, false, true, false, false, false, false, false, false, false, false, false] rfl rfl (by kernel_rfl) (fun _ _ _ h => h) (Or.inl ⟨by rfl, ?_⟩) ?_ ?_
      rotate_left
      · intro w'
        go_simp
        with_reducible rfl
      rotate_left
      · simp only [Act.put, List.setIfInBounds_toArray, List.set_cons_zero, List.set_cons_succ, i64_w, i32_w]
        rfl
      refine pure_ (i := 10) (N := some 35) (v := ?_) (a' := ?_) #[true, true, true, true, true, true, false, true, false, false, true, false, false, false, false, false, false] rfl rfl (by kernel_rfl) (fun _ _ _ h => h) (Or.inl ⟨by rfl, ?_⟩) ?_ ?_
      rotate_left
      · intro w'
        go_simp
        with_reducible rfl
      rotate_left
      · simp only [Act.put, List.setIfInBounds_toArray, List.set_cons_zero, List.set_cons_succ, i64_w, i32_w]
        rfl
      refine take_ (i := 11) (N := some 36) (v := ?_) (a' := ?_) #[true, true, true, true, true, true, false, true, false, false, true, true, false, false, false, false, false] rfl rfl (by kernel_rfl) (fun _ _ _ h => h) (Or.inl ⟨by rfl, ?_⟩) hHeld ?_ ?_
      rotate_left
      · rintro w' hb'
        have dd := pw_cell_below hb' d1
        go_simp
        with_reducible rfl
      rotate_left
      · simp only [Act.put, List.setIfInBounds_toArray, List.set_cons_zero, List.set_cons_succ, i64_w, i32_w]
        rfl
      refine pure_ (i := 12) (N := some 37) (v := ?_) (a' := ?_) #[true, true, true, true, true, true, false, true, false, false, true, true, true, false, false, false, false] rfl rfl (by kernel_rfl) (fun _ _ _ h => h) (Or.inl ⟨by rfl, ?_⟩) ?_ ?_
      rotate_left
      · intro w'
        go_simp
        with_reducible rfl
      rotate_left
      · simp only [Act.put, List.setIfInBounds_toArray, List.set_cons_zero, List.set_cons_succ, i64_w, i32_w]
        rfl
      refine pure_ (i := 13) (N := some 38) (v := ?_) (a' := ?_) #[true, true, true, true, true, true, false, true, false, false, true, true, true, true, false, false, false] rfl rfl (by kernel_rfl) (fun _ _ _ h => h) (Or.inl ⟨by rfl, ?_⟩) ?_ ?_
      rotate_left
      · intro w'
        go_simp
        with_reducible rfl
      rotate_left
      · simp only [Act.put, List.setIfInBounds_toArray, List.set_cons_zero, List.set_cons_succ, i64_w, i32_w]
        rfl
      refine two_ (i := 6) (j := 8) (Ni := some 31) (Nj := some 33) #[true, true, true, true, true, true, true, true, false, false, true, true, true, true, false, false, false] #[true, true, true, true, true, true, false, true, true, false, true, true, true, true, false, false, false] rfl rfl rfl rfl (by kernel_rfl) (by decide) (by decide) (fun K hK => ?_) (fun K hK => ?_)
      · refine app_ (Value.int .u64) rfl (by rfl) _ _ 25 23 (.int .u64 0) 8 rfl Try.underlying25 (by kernel_rfl) rfl (by decide) (.slice none 0 0) [] X1 A1 _ c1 (fun k => w2.heap.size ≤ k) (by rfl) (by rfl) (fun k hk => Nat.le_trans (below_drew (Below.refl w2.heap.size w2)).size hk) (Kd.R_nil _ _ _ _ _) (HX1.out _ (below_drew hB.out)) (below_drew hB.out) (by have h := hn1.out; simp only [List.length_nil]; omega) ?_
        intro va wa hRa hba hga _
        rw [List.nil_append] at hRa
        have sa := below_then (below_drew (Below.refl w2.heap.size w2)) (below_drew (Below.refl w2.heap.size w2)).size (grown_self hga rfl)
        refine hK.out _ _ sa (fun hHeld => ?_)
        clear hK K
        refine norm_ (a' := ?_) ?_ ?_
        rotate_left
        · show Act.put _ (some 31) _ = _
          simp only [Act.put, List.setIfInBounds_toArray, List.set_cons_zero, List.set_cons_succ, i64_w, i32_w]
          rfl
        refine one_ (i := 8) (N := some 33) #[true, true, true, true, true, true, true, true, true, false, true, true, true, true, false, false, false] rfl rfl (by kernel_rfl) (by decide) (fun K hK => ?_)
        refine value_ (w1 := ?_) (v := ?_) (by rfl) rfl ?_ ?_
        rotate_left 2
        · go_simp
          constructor
          · rfl
          · rfl
        have hk1 : (wa.alloc (.cells #[.int .u64 key] 23)).heap[wa.heap.size]? = some (.cells #[.int .u64 key] 23 (0, 0)) := Array.getElem?_push_size
        have sb := below_alloc sa (.cells #[.int .u64 key] 23)
        have hbb := below_alloc hba (.cells #[.int .u64 key] 23)
        have hRb := Kd.R_alloc hRa (.cells #[.int .u64 key] 23)
        refine hK.out _ _ sb (fun hHeld => ?_)
        clear hK K
        refine norm_ (a' := ?_) ?_ ?_
        rotate_left
        · show Act.put _ (some 33) _ = _
          simp only [Act.put, List.setIfInBounds_toArray, List.set_cons_zero, List.set_cons_succ, i64_w, i32_w]
          rfl
        generalize wa.alloc (.cells #[.int .u64 key] 23) = wb at *
        refine one_ (i := 9) (N := some 34) #[true, true, true, true, true, true, true, true, true, true, true, true, true, true, false, false, false] rfl rfl (by kernel_rfl) (by decide) (fun K hK => ?_)
        refine app_ (Value.int .u64) rfl (by rfl) _ _ 25 23 (.int .u64 0) 8 rfl Try.underlying25 (by kernel_rfl) rfl (by decide) va X1 [key] (some ⟨wa.heap.size, 0, none⟩) _ 1 (fun k => w2.heap.size ≤ k) (by rfl) (by rfl) (fun k hk => Nat.le_trans sb.size hk) hRb (C_row1 hk1) hbb (by have h := hn1.out; simp only [List.length_singleton]; omega) ?_
        intro vm wm hRm hbm hgm _
        have sm := sb.grown hgm sb.size (fun k hk => hRb.1 k hk)
        refine hK.out _ _ sm (fun hHeld => ?_)
        clear hK K
        refine norm_ (a' := ?_) ?_ ?_
        rotate_left
        · show Act.put _ (some 34) _ = _
          simp only [Act.put, List.setIfInBounds_toArray, List.set_cons_zero, List.set_cons_succ, i64_w, i32_w]
          rfl
        refine one_ (i := 14) (N := some 39) #[true, true, true, true, true, true, true, true, true, true, true, true, true, true, true, false, false] rfl rfl (by kernel_rfl) (by decide) (fun K hK => ?_)
        refine app_ (Value.int .u64) rfl (by rfl) _ _ 25 23 (.int .u64 0) 8 rfl Try.underlying25 (by kernel_rfl) rfl (by decide) vm (X1 ++ [key]) Y1 Bk1 _ (c1 - k) (fun k => w2.heap.size ≤ k) (by rfl) (by rfl) (fun k hk => Nat.le_trans sm.size hk) hRm (HY1.out _ hbm) hbm (by have h := hn1.out; (try simp only [List.length_append, List.length_singleton]); omega) ?_
        intro vz wz hRz hbz hgz _
        rw [hr1.out] at hRz
        have sz := sm.grown hgz sm.size (fun k hk => hRm.1 k hk)
        refine hK.out _ _ sz (fun hHeld => ?_)
        clear hK K
        refine norm_ (a' := ?_) ?_ ?_
        rotate_left
        · show Act.put _ (some 39) _ = _
          simp only [Act.put, List.setIfInBounds_toArray, List.set_cons_zero, List.set_cons_succ, i64_w, i32_w]
          rfl
        obtain ⟨Az, cz, rfl⟩ := Kd.R_slice hRz
        have hoz := (sz.block _ (blk_lt hO.out)).trans hO.out
        have y0 := (blk_cell hoz 1).trans rfl
        have z0 := blk_frozen hoz 1
        refine pure_ (i := 15) (N := some 40) (v := ?_) (a' := ?_) #[true, true, true, true, true, true, true, true, true, true, true, true, true, true, true, true, false] rfl rfl (by kernel_rfl) (fun _ _ _ h => h) (Or.inl ⟨by rfl, ?_⟩) ?_ ?_
        rotate_left
        · intro w'
          go_simp
          with_reducible rfl
        rotate_left
        · simp only [Act.put, List.setIfInBounds_toArray, List.set_cons_zero, List.set_cons_succ, i64_w, i32_w]
          rfl
        refine last_ (i := 16) (N := none) #[true, true, true, true, true, true, true, true, true, true, true, true, true, true, true, true, true] rfl rfl (by kernel_rfl) (by decide) (fun K hK => ?_)
        refine skip_ (w1 := ?_) (by rfl) rfl ?_ ?_
        rotate_left
        · go_simp
          with_reducible rfl
        refine hK.out _ _ ?_
        clear hK K
        refine done_ (by kernel_rfl) ?_
        have hRf := hid (Kd.R_set (Kd.R_mono hRz (fun _ _ => trivial) : (Kd.int .u64).R 23 _ _ (fun _ => True) _ _) hoz (by decide) 1 (.slice Az r1.length cz))
        have hbf := hid (below_set hbz hgo.out 1 (.slice Az r1.length cz))
        have hof := hid (blk_set hoz 1 (.slice Az r1.length cz))
        have hxf := hid ((Below.heap_setCell wz ⟨go, 1, none⟩ (.slice Az r1.length cz) w.heap.size (by show w.heap.size ≠ go; have := hgo2.out; omega)).trans ((sz.block _ (blk_lt hx.out)).trans hx.out))
        have hrf := hid ((Below.heap_setCell wz ⟨go, 1, none⟩ (.slice Az r1.length cz) (w.heap.size + 1) (by show w.heap.size + 1 ≠ go; have := hgo2.out; omega)).trans ((sz.block _ (blk_lt hr.out)).trans hr.out))
        go_wp2_with fail
        go_meet
        exact ⟨Az, cz, hRf, hbf, hxf, hrf, hof⟩
      · refine value_ (w1 := ?_) (v := ?_) (by rfl) rfl ?_ ?_
        rotate_left 2
        · go_simp
          constructor
          · rfl
          · rfl
        have hk1 : ((w2.alloc (.cells #[.int .u64 key] 23)).drew).heap[w2.heap.size]? = some (.cells #[.int .u64 key] 23 (0, 0)) := Array.getElem?_push_size
        have sb := below_drew (below_alloc (Below.refl w2.heap.size w2) (.cells #[.int .u64 key] 23))
        have hbb := below_drew (below_alloc hB.out (.cells #[.int .u64 key] 23))
        refine hK.out _ _ sb (fun hHeld => ?_)
        clear hK K
        refine norm_ (a' := ?_) ?_ ?_
        rotate_left
        · show Act.put _ (some 33) _ = _
          simp only [Act.put, List.setIfInBounds_toArray, List.set_cons_zero, List.set_cons_succ, i64_w, i32_w]
          rfl
        generalize (w2.alloc (.cells #[.int .u64 key] 23)).drew = wb at *
        refine one_ (i := 6) (N := some 31) #[true, true, true, true, true, true, true, true, true, false, true, true, true, true, false, false, false] rfl rfl (by kernel_rfl) (by decide) (fun K hK => ?_)
        refine app_ (Value.int .u64) rfl (by rfl) _ _ 25 23 (.int .u64 0) 8 rfl Try.underlying25 (by kernel_rfl) rfl (by decide) (.slice none 0 0) [] X1 A1 _ c1 (fun k => w2.heap.size ≤ k) (by rfl) (by rfl) (fun k hk => Nat.le_trans sb.size hk) (Kd.R_nil _ _ _ _ _) (HX1.out _ hbb) hbb (by have h := hn1.out; simp only [List.length_nil]; omega) ?_
        intro va wa hRa hba hga _
        rw [List.nil_append] at hRa
        have sa := below_then sb sb.size (grown_self hga rfl)
        refine hK.out _ _ sa (fun hHeld => ?_)
        clear hK K
        refine norm_ (a' := ?_) ?_ ?_
        rotate_left
        · show Act.put _ (some 31) _ = _
          simp only [Act.put, List.setIfInBounds_toArray, List.set_cons_zero, List.set_cons_succ, i64_w, i32_w]
          rfl
        replace hk1 := ((grown_self hga rfl).block _ (blk_lt hk1)).trans hk1
        refine one_ (i := 9) (N := some 34) #[true, true, true, true, true, true, true, true, true, true, true, true, true, true, false, false, false] rfl rfl (by kernel_rfl) (by decide) (fun K hK => ?_)
        refine app_ (Value.int .u64) rfl (by rfl) _ _ 25 23 (.int .u64 0) 8 rfl Try.underlying25 (by kernel_rfl) rfl (by decide) va X1 [key] (some ⟨w2.heap.size, 0, none⟩) _ 1 (fun k => w2.heap.size ≤ k) (by rfl) (by rfl) (fun k hk => Nat.le_trans sa.size hk) hRa (C_row1 hk1) hba (by have h := hn1.out; simp only [List.length_singleton]; omega) ?_
        intro vm wm hRm hbm hgm _
        have sm := sa.grown hgm sa.size (fun k hk => hRa.1 k hk)
        refine hK.out _ _ sm (fun hHeld => ?_)
        clear hK K
        refine norm_ (a' := ?_) ?_ ?_
        rotate_left
        · show Act.put _ (some 34) _ = _
          simp only [Act.put, List.setIfInBounds_toArray, List.set_cons_zero, List.set_cons_succ, i64_w, i32_w]
          rfl
        refine one_ (i := 14) (N := some 39) #[true, true, true, true, true, true, true, true, true, true, true, true, true, true, true, false, false] rfl rfl (by kernel_rfl) (by decide) (fun K hK => ?_)
        refine app_ (Value.int .u64) rfl (by rfl) _ _ 25 23 (.int .u64 0) 8 rfl Try.underlying25 (by kernel_rfl) rfl (by decide) vm (X1 ++ [key]) Y1 Bk1 _ (c1 - k) (fun k => w2.heap.size ≤ k) (by rfl) (by rfl) (fun k hk => Nat.le_trans sm.size hk) hRm (HY1.out _ hbm) hbm (by have h := hn1.out; (try simp only [List.length_append, List.length_singleton]); omega) ?_
        intro vz wz hRz hbz hgz _
        rw [hr1.out] at hRz
        have sz := sm.grown hgz sm.size (fun k hk => hRm.1 k hk)
        refine hK.out _ _ sz (fun hHeld => ?_)
        clear hK K
        refine norm_ (a' := ?_) ?_ ?_
        rotate_left
        · show Act.put _ (some 39) _ = _
          simp only [Act.put, List.setIfInBounds_toArray, List.set_cons_zero, List.set_cons_succ, i64_w, i32_w]
          rfl
        obtain ⟨Az, cz, rfl⟩ := Kd.R_slice hRz
        have hoz := (sz.block _ (blk_lt hO.out)).trans hO.out
        have y0 := (blk_cell hoz 1).trans rfl
        have z0 := blk_frozen hoz 1
        refine pure_ (i := 15) (N := some 40) (v := ?_) (a' := ?_) #[true, true, true, true, true, true, true, true, true, true, true, true, true, true, true, true, false] rfl rfl (by kernel_rfl) (fun _ _ _ h => h) (Or.inl ⟨by rfl, ?_⟩) ?_ ?_
        rotate_left
        · intro w'
          go_simp
          with_reducible rfl
        rotate_left
        · simp only [Act.put, List.setIfInBounds_toArray, List.set_cons_zero, List.set_cons_succ, i64_w, i32_w]
          rfl
        refine last_ (i := 16) (N := none) #[true, true, true, true, true, true, true, true, true, true, true, true, true, true, true, true, true] rfl rfl (by kernel_rfl) (by decide) (fun K hK => ?_)
        refine skip_ (w1 := ?_) (by rfl) rfl ?_ ?_
        rotate_left
        · go_simp
          with_reducible rfl
        refine hK.out _ _ ?_
        clear hK K
        refine done_ (by kernel_rfl) ?_
        have hRf := hid (Kd.R_set (Kd.R_mono hRz (fun _ _ => trivial) : (Kd.int .u64).R 23 _ _ (fun _ => True) _ _) hoz (by decide) 1 (.slice Az r1.length cz))
        have hbf := hid (below_set hbz hgo.out 1 (.slice Az r1.length cz))
        have hof := hid (blk_set hoz 1 (.slice Az r1.length cz))
        have hxf := hid ((Below.heap_setCell wz ⟨go, 1, none⟩ (.slice Az r1.length cz) w.heap.size (by show w.heap.size ≠ go; have := hgo2.out; omega)).trans ((sz.block _ (blk_lt hx.out)).trans hx.out))
        have hrf := hid ((Below.heap_setCell wz ⟨go, 1, none⟩ (.slice Az r1.length cz) (w.heap.size + 1) (by show w.heap.size + 1 ≠ go; have := hgo2.out; omega)).trans ((sz.block _ (blk_lt hr.out)).trans hr.out))
        go_wp2_with fail
        go_meet
        exact ⟨Az, cz, hRf, hbf, hxf, hrf, hof⟩
    case rest =>
      obtain ⟨w3, hw3⟩ : ∃ w3, w3 = wc := ⟨_, rfl⟩
      subst hw3
      clear hx hr hO hB  d0 d1 d2 d3 g0 g1 g2 g3
      obtain ⟨A5, c5, hR1, hB, hx, hr, hO⟩ := hcut
      have d0 : w3.cell? ⟨w.heap.size, 0, none⟩ = some (.bool false) := (blk_cell hx.out 0).trans rfl
      have d1 : w3.cell? ⟨w.heap.size, 1, none⟩ = some (.slice A1 keys.length c1) := (blk_cell hx.out 1).trans rfl
      have d2 : w3.cell? ⟨w.heap.size, 2, none⟩ = some (.slice A2 vals.length c2) := (blk_cell hx.out 2).trans rfl
      have d3 : w3.cell? ⟨w.heap.size, 3, none⟩ = some (.slice A3 kids.length c3) := (blk_cell hx.out 3).trans rfl
      have g0 : w3.cell? ⟨go, 0, none⟩ = some (.bool false) := (blk_cell hO.out 0).trans rfl
      have g1 : w3.cell? ⟨go, 1, none⟩ = some (.slice A5 r1.length c5) := (blk_cell hO.out 1).trans rfl
      have g2 : w3.cell? ⟨go, 2, none⟩ = some (.slice none 0 0) := (blk_cell hO.out 2).trans rfl
      have g3 : w3.cell? ⟨go, 3, none⟩ = some (.slice none 0 0) := (blk_cell hO.out 3).trans rfl
      go_upto_region 5 with fail
      skip
      go_cut [] (fun wy => ∃ (Az : Option Addr) (cz : Nat), Hid ((Kd.int .i64).R 3 wy w.heap.size (fun _ => True) (.slice Az r2.length cz) r2) ∧ Hid ((Kd.int .u64).R 23 wy w.heap.size (fun _ => True) (.slice A5 r1.length c5) r1) ∧ Hid (Below w.heap.size w wy) ∧ Hid (wy.heap[w.heap.size]? = some (.cells #[.bool false, .slice A1 keys.length c1, .slice A2 vals.length c2, .slice A3 kids.length c3] 36 (0, 0))) ∧ Hid (wy.heap[w.heap.size + 1]? = some (.cells #[.bool false, .slice none 0 0, .slice none 0 0, .slice none 0 0] 36 (0, 0))) ∧ Hid (wy.heap[go]? = some (.cells #[.bool false, .slice A5 r1.length c5, .slice none 0 0, .slice Az r2.length cz] 36 (0, 0))))
      case first =>
        refine start_ (n := 19) (S := fun w' => Below w3.heap.size w3 w') (ds := [18]) #[false, false, false, false, false, false, false, false, false, false, false, false, false, false, false, false, false, false, false] (by kernel_rfl) rfl rfl (below_drew (Below.refl _ _)) (fun hHeld => ?_)
        refine pure_ (i := 0) (N := some 41) (v := ?_) (a' := ?_) #[true, false, false, false, false, false, false, false, false, false, false, false, false, false, false, false, false, false, false] rfl rfl (by kernel_rfl) (fun _ _ _ h => h) (Or.inl ⟨by rfl, ?_⟩) ?_ ?_
        rotate_left
        · intro w'
          go_simp
          with_reducible rfl
        rotate_left
        · simp only [Act.put, List.setIfInBounds_toArray, List.set_cons_zero, List.set_cons_succ, i64_w, i32_w]
          rfl
        refine take_ (i := 1) (N := some 42) (v := ?_) (a' := ?_) #[true, true, false, false, false, false, false, false, false, false, false, false, false, false, false, false, false, false, false] rfl rfl (by kernel_rfl) (fun _ _ _ h => h) (Or.inl ⟨by rfl, ?_⟩) hHeld ?_ ?_
        rotate_left
        · rintro w' hb'
          have dd := pw_cell_below hb' g3
          go_simp
          with_reducible rfl
        rotate_left
        · simp only [Act.put, List.setIfInBounds_toArray, List.set_cons_zero, List.set_cons_succ, i64_w, i32_w]
          rfl
        refine pure_ (i := 2) (N := some 43) (v := ?_) (a' := ?_) #[true, true, true, false, false, false, false, false, false, false, false, false, false, false, false, false, false, false, false] rfl rfl (by kernel_rfl) (fun _ _ _ h => h) (Or.inl ⟨by rfl, ?_⟩) ?_ ?_
        rotate_left
        · intro w'
          go_simp
          with_reducible rfl
        rotate_left
        · simp only [Act.put, List.setIfInBounds_toArray, List.set_cons_zero, List.set_cons_succ, i64_w, i32_w]
          rfl
        refine take_ (i := 3) (N := some 44) (v := ?_) (a' := ?_) #[true, true, true, true, false, false, false, false, false, false, false, false, false, false, false, false, false, false, false] rfl rfl (by kernel_rfl) (fun _ _ _ h => h) (Or.inl ⟨by rfl, ?_⟩) hHeld ?_ ?_
        rotate_left
        · rintro w' hb'
          have dd := pw_cell_below hb' d3
          go_simp
          with_reducible rfl
        rotate_left
        · simp only [Act.put, List.setIfInBounds_toArray, List.set_cons_zero, List.set_cons_succ, i64_w, i32_w]
          rfl
        refine pure_ (i := 4) (N := some 45) (v := ?_) (a' := ?_) #[true, true, true, true, true, false, false, false, false, false, false, false, false, false, false, false, false, false, false] rfl rfl (by kernel_rfl) (fun _ _ _ h => h) (Or.inl ⟨by rfl, ?_⟩) ?_ ?_
        rotate_left
        · intro w'
          go_simp
          with_reducible rfl
        rotate_left
        · simp only [Act.put, List.setIfInBounds_toArray, List.set_cons_zero, List.set_cons_succ, i64_w, i32_w]
          rfl
        refine pure_ (i := 5) (N := some 46) (v := ?_) (a' := ?_) #[true, true, true, true, true, true, false, false, false, false, false, false, false, false, false, false, false, false, false] rfl rfl (by kernel_rfl) (fun _ _ _ h => h) (Or.inl ⟨by rfl, ?_⟩) ?_ ?_
        rotate_left
        · intro w'
          go_simp
          with_reducible rfl
        rotate_left
        · simp only [Act.put, List.setIfInBounds_toArray, List.set_cons_zero, List.set_cons_succ, i64_w, i32_w]
          rfl
        refine pure_ (i := 6) (N := some 47) (v := ?_) (a' := ?_) #[true, true, true, true, true, true, true, false, false, false, false, false, false, false, false, false, false, false, false] rfl rfl (by kernel_rfl) (fun _ _ _ h => h) (Or.inl ⟨by rfl, ?_⟩) ?_ ?_
        rotate_left
        · intro w'
          go_simp
          with_reducible rfl
        rotate_left
        · simp only [Act.put, List.setIfInBounds_toArray, List.set_cons_zero, List.set_cons_succ, i64_w, i32_w]
          rfl
        refine pure_ (i := 8) (N := some 49) (v := ?_) (a' := ?_) #[true, true, true, true, true, true, true, false, true, false, false, false, false, false, false, false, false, false, false] rfl rfl (by kernel_rfl) (fun _ _ _ h => h) (Or.inl ⟨by rfl, ?_⟩) ?_ ?_
        rotate_left
        · intro w'
          go_simp
          with_reducible rfl
        rotate_left
        · simp only [Act.put, List.setIfInBounds_toArray, List.set_cons_zero, List.set_cons_succ, i64_w, i32_w]
          rfl
        refine pure_ (i := 11) (N := some 52) (v := ?_) (a' := ?_) #[true, true, true, true, true, true, true, false, true, false, false, true, false, false, false, false, false, false, false] rfl rfl (by kernel_rfl) (fun _ _ _ h => h) (Or.inl ⟨by rfl, ?_⟩) ?_ ?_
        rotate_left
        · intro w'
          go_simp
          with_reducible rfl
        rotate_left
        · simp only [Act.put, List.setIfInBounds_toArray, List.set_cons_zero, List.set_cons_succ, i64_w, i32_w]
          rfl
        refine take_ (i := 12) (N := some 53) (v := ?_) (a' := ?_) #[true, true, true, true, true, true, true, false, true, false, false, true, true, false, false, false, false, false, false] rfl rfl (by kernel_rfl) (fun _ _ _ h => h) (Or.inl ⟨by rfl, ?_⟩) hHeld ?_ ?_
        rotate_left
        · rintro w' hb'
          have dd := pw_cell_below hb' d3
          go_simp
          with_reducible rfl
        rotate_left
        · simp only [Act.put, List.setIfInBounds_toArray, List.set_cons_zero, List.set_cons_succ, i64_w, i32_w]
          rfl
        refine pure_ (i := 13) (N := some 54) (v := ?_) (a' := ?_) #[true, true, true, true, true, true, true, false, true, false, false, true, true, true, false, false, false, false, false] rfl rfl (by kernel_rfl) (fun _ _ _ h => h) (Or.inl ⟨by rfl, ?_⟩) ?_ ?_
        rotate_left
        · intro w'
          go_simp
          with_reducible rfl
        rotate_left
        · simp only [Act.put, List.setIfInBounds_toArray, List.set_cons_zero, List.set_cons_succ, i64_w, i32_w]
          rfl
        refine pure_ (i := 14) (N := some 55) (v := ?_) (a' := ?_) #[true, true, true, true, true, true, true, false, true, false, false, true, true, true, true, false, false, false, false] rfl rfl (by kernel_rfl) (fun _ _ _ h => h) (Or.inl ⟨by rfl, ?_⟩) ?_ ?_
        rotate_left
        · intro w'
          go_simp
          with_reducible rfl
        rotate_left
        · simp only [Act.put, List.setIfInBounds_toArray, List.set_cons_zero, List.set_cons_succ, i64_w, i32_w]
          rfl
        refine pure_ (i := 15) (N := some 56) (v := ?_) (a' := ?_) #[true, true, true, true, true, true, true, false, true, false, false, true, true, true, true, true, false, false, false] rfl rfl (by kernel_rfl) (fun _ _ _ h => h) (Or.inl ⟨by rfl, ?_⟩) ?_ ?_
        rotate_left
        · intro w'
          go_simp
          with_reducible rfl
        rotate_left
        · simp only [Act.put, List.setIfInBounds_toArray, List.set_cons_zero, List.set_cons_succ, i64_w, i32_w]
          rfl
        refine two_ (i := 7) (j := 9) (Ni := some 48) (Nj := some 50) #[true, true, true, true, true, true, true, true, true, false, false, true, true, true, true, true, false, false, false] #[true, true, true, true, true, true, true, false, true, true, false, true, true, true, true, true, false, false, false] rfl rfl rfl rfl (by kernel_rfl) (by decide) (by decide) (fun K hK => ?_) (fun K hK => ?_)
        · refine app_ (Value.int .i64) rfl (by rfl) _ _ 27 3 (.int .i64 0) 8 rfl Try.underlying27 (by kernel_rfl) rfl (by decide) (.slice none 0 0) [] X2 A3 _ c3 (fun k => w3.heap.size ≤ k) (by rfl) (by rfl) (fun k hk => Nat.le_trans (below_drew (Below.refl w3.heap.size w3)).size hk) (Kd.R_nil _ _ _ _ _) (HX2.out _ (below_drew hB.out)) (below_drew hB.out) (by have h := hn2.out; simp only [List.length_nil]; omega) ?_
          intro va wa hRa hba hga _
          rw [List.nil_append] at hRa
          have sa := below_then (below_drew (Below.refl w3.heap.size w3)) (below_drew (Below.refl w3.heap.size w3)).size (grown_self hga rfl)
          refine hK.out _ _ sa (fun hHeld => ?_)
          clear hK K
          refine norm_ (a' := ?_) ?_ ?_
          rotate_left
          · show Act.put _ (some 48) _ = _
            simp only [Act.put, List.setIfInBounds_toArray, List.set_cons_zero, List.set_cons_succ, i64_w, i32_w]
            rfl
          refine one_ (i := 9) (N := some 50) #[true, true, true, true, true, true, true, true, true, true, false, true, true, true, true, true, false, false, false] rfl rfl (by kernel_rfl) (by decide) (fun K hK => ?_)
          refine value_ (w1 := ?_) (v := ?_) (by rfl) rfl ?_ ?_
          rotate_left 2
          · go_simp
            constructor
            · rfl
            · rfl
          have hk2 : (wa.alloc (.cells #[.int .i64 kid] 3)).heap[wa.heap.size]? = some (.cells #[.int .i64 kid] 3 (0, 0)) := Array.getElem?_push_size
          have sb := below_alloc sa (.cells #[.int .i64 kid] 3)
          have hbb := below_alloc hba (.cells #[.int .i64 kid] 3)
          have hRb := Kd.R_alloc hRa (.cells #[.int .i64 kid] 3)
          refine hK.out _ _ sb (fun hHeld => ?_)
          clear hK K
          refine norm_ (a' := ?_) ?_ ?_
          rotate_left
          · show Act.put _ (some 50) _ = _
            simp only [Act.put, List.setIfInBounds_toArray, List.set_cons_zero, List.set_cons_succ, i64_w, i32_w]
            rfl
          generalize wa.alloc (.cells #[.int .i64 kid] 3) = wb at *
          refine one_ (i := 10) (N := some 51) #[true, true, true, true, true, true, true, true, true, true, true, true, true, true, true, true, false, false, false] rfl rfl (by kernel_rfl) (by decide) (fun K hK => ?_)
          refine app_ (Value.int .i64) rfl (by rfl) _ _ 27 3 (.int .i64 0) 8 rfl Try.underlying27 (by kernel_rfl) rfl (by decide) va X2 [kid] (some ⟨wa.heap.size, 0, none⟩) _ 1 (fun k => w3.heap.size ≤ k) (by rfl) (by rfl) (fun k hk => Nat.le_trans sb.size hk) hRb (C_row1 hk2) hbb (by have h := hn2.out; simp only [List.length_singleton]; omega) ?_
          intro vm wm hRm hbm hgm _
          have sm := sb.grown hgm sb.size (fun k hk => hRb.1 k hk)
          refine hK.out _ _ sm (fun hHeld => ?_)
          clear hK K
          refine norm_ (a' := ?_) ?_ ?_
          rotate_left
          · show Act.put _ (some 51) _ = _
            simp only [Act.put, List.setIfInBounds_toArray, List.set_cons_zero, List.set_cons_succ, i64_w, i32_w]
            rfl
          refine one_ (i := 16) (N := some 57) #[true, true, true, true, true, true, true, true, true, true, true, true, true, true, true, true, true, false, false] rfl rfl (by kernel_rfl) (by decide) (fun K hK => ?_)
          refine app_ (Value.int .i64) rfl (by rfl) _ _ 27 3 (.int .i64 0) 8 rfl Try.underlying27 (by kernel_rfl) rfl (by decide) vm (X2 ++ [kid]) Y2 Bk2 _ (c3 - ka) (fun k => w3.heap.size ≤ k) (by rfl) (by rfl) (fun k hk => Nat.le_trans sm.size hk) hRm (HY2.out _ hbm) hbm (by have h := hn2.out; (try simp only [List.length_append, List.length_singleton]); omega) ?_
          intro vz wz hRz hbz hgz _
          rw [hr2.out] at hRz
          have sz := sm.grown hgz sm.size (fun k hk => hRm.1 k hk)
          refine hK.out _ _ sz (fun hHeld => ?_)
          clear hK K
          refine norm_ (a' := ?_) ?_ ?_
          rotate_left
          · show Act.put _ (some 57) _ = _
            simp only [Act.put, List.setIfInBounds_toArray, List.set_cons_zero, List.set_cons_succ, i64_w, i32_w]
            rfl
          obtain ⟨Az, cz, rfl⟩ := Kd.R_slice hRz
          have hoz := (sz.block _ (blk_lt hO.out)).trans hO.out
          have y0 := (blk_cell hoz 3).trans rfl
          have z0 := blk_frozen hoz 3
          refine pure_ (i := 17) (N := some 58) (v := ?_) (a' := ?_) #[true, true, true, true, true, true, true, true, true, true, true, true, true, true, true, true, true, true, false] rfl rfl (by kernel_rfl) (fun _ _ _ h => h) (Or.inl ⟨by rfl, ?_⟩) ?_ ?_
          rotate_left
          · intro w'
            go_simp
            with_reducible rfl
          rotate_left
          · simp only [Act.put, List.setIfInBounds_toArray, List.set_cons_zero, List.set_cons_succ, i64_w, i32_w]
            rfl
          refine last_ (i := 18) (N := none) #[true, true, true, true, true, true, true, true, true, true, true, true, true, true, true, true, true, true, true] rfl rfl (by kernel_rfl) (by decide) (fun K hK => ?_)
          refine skip_ (w1 := ?_) (by rfl) rfl ?_ ?_
          rotate_left
          · go_simp
            with_reducible rfl
          refine hK.out _ _ ?_
          clear hK K
          refine done_ (by kernel_rfl) ?_
          have hRf := hid (Kd.R_set (Kd.R_mono hRz (fun _ _ => trivial) : (Kd.int .i64).R 3 _ _ (fun _ => True) _ _) hoz (by decide) 3 (.slice Az r2.length cz))
          have hbf := hid (below_set hbz hgo.out 3 (.slice Az r2.length cz))
          have hof := hid (blk_set hoz 3 (.slice Az r2.length cz))
          have hxf := hid ((Below.heap_setCell wz ⟨go, 3, none⟩ (.slice Az r2.length cz) w.heap.size (by show w.heap.size ≠ go; have := hgo2.out; omega)).trans ((sz.block _ (blk_lt hx.out)).trans hx.out))
          have hrf := hid ((Below.heap_setCell wz ⟨go, 3, none⟩ (.slice Az r2.length cz) (w.heap.size + 1) (by show w.heap.size + 1 ≠ go; have := hgo2.out; omega)).trans ((sz.block _ (blk_lt hr.out)).trans hr.out))
          have hRp1 := hid (Kd.R_set (Kd.R_below hR1.out sz) hoz (by decide) 3 (.slice Az r2.length cz))
          go_wp2_with fail
          go_meet
          exact ⟨Az, cz, hRf, hRp1, hbf, hxf, hrf, hof⟩
        · refine value_ (w1 := ?_) (v := ?_) (by rfl) rfl ?_ ?_
          rotate_left 2
          · go_simp
            constructor
            · rfl
            · rfl
          have hk2 : ((w3.alloc (.cells #[.int .i64 kid] 3)).drew).heap[w3.heap.size]? = some (.cells #[.int .i64 kid] 3 (0, 0)) := Array.getElem?_push_size
          have sb := below_drew (below_alloc (Below.refl w3.heap.size w3) (.cells #[.int .i64 kid] 3))
          have hbb := below_drew (below_alloc hB.out (.cells #[.int .i64 kid] 3))
          refine hK.out _ _ sb (fun hHeld => ?_)
          clear hK K
          refine norm_ (a' := ?_) ?_ ?_
          rotate_left
          · show Act.put _ (some 50) _ = _
            simp only [Act.put, List.setIfInBounds_toArray, List.set_cons_zero, List.set_cons_succ, i64_w, i32_w]
            rfl
          generalize (w3.alloc (.cells #[.int .i64 kid] 3)).drew = wb at *
          refine one_ (i := 7) (N := some 48) #[true, true, true, true, true, true, true, true, true, true, false, true, true, true, true, true, false, false, false] rfl rfl (by kernel_rfl) (by decide) (fun K hK => ?_)
          refine app_ (Value.int .i64) rfl (by rfl) _ _ 27 3 (.int .i64 0) 8 rfl Try.underlying27 (by kernel_rfl) rfl (by decide) (.slice none 0 0) [] X2 A3 _ c3 (fun k => w3.heap.size ≤ k) (by rfl) (by rfl) (fun k hk => Nat.le_trans sb.size hk) (Kd.R_nil _ _ _ _ _) (HX2.out _ hbb) hbb (by have h := hn2.out; simp only [List.length_nil]; omega) ?_
          intro va wa hRa hba hga _
          rw [List.nil_append] at hRa
          have sa := below_then sb sb.size (grown_self hga rfl)
          refine hK.out _ _ sa (fun hHeld => ?_)
          clear hK K
          refine norm_ (a' := ?_) ?_ ?_
          rotate_left
          · show Act.put _ (some 48) _ = _
            simp only [Act.put, List.setIfInBounds_toArray, List.set_cons_zero, List.set_cons_succ, i64_w, i32_w]
            rfl
          replace hk2 := ((grown_self hga rfl).block _ (blk_lt hk2)).trans hk2
          refine one_ (i := 10) (N := some 51) #[true, true, true, true, true, true, true, true, true, true, true, true, true, true, true, true, false, false, false] rfl rfl (by kernel_rfl) (by decide) (fun K hK => ?_)
          refine app_ (Value.int .i64) rfl (by rfl) _ _ 27 3 (.int .i64 0) 8 rfl Try.underlying27 (by kernel_rfl) rfl (by decide) va X2 [kid] (some ⟨w3.heap.size, 0, none⟩) _ 1 (fun k => w3.heap.size ≤ k) (by rfl) (by rfl) (fun k hk => Nat.le_trans sa.size hk) hRa (C_row1 hk2) hba (by have h := hn2.out; simp only [List.length_singleton]; omega) ?_
          intro vm wm hRm hbm hgm _
          have sm := sa.grown hgm sa.size (fun k hk => hRa.1 k hk)
          refine hK.out _ _ sm (fun hHeld => ?_)
          clear hK K
          refine norm_ (a' := ?_) ?_ ?_
          rotate_left
          · show Act.put _ (some 51) _ = _
            simp only [Act.put, List.setIfInBounds_toArray, List.set_cons_zero, List.set_cons_succ, i64_w, i32_w]
            rfl
          refine one_ (i := 16) (N := some 57) #[true, true, true, true, true, true, true, true, true, true, true, true, true, true, true, true, true, false, false] rfl rfl (by kernel_rfl) (by decide) (fun K hK => ?_)
          refine app_ (Value.int .i64) rfl (by rfl) _ _ 27 3 (.int .i64 0) 8 rfl Try.underlying27 (by kernel_rfl) rfl (by decide) vm (X2 ++ [kid]) Y2 Bk2 _ (c3 - ka) (fun k => w3.heap.size ≤ k) (by rfl) (by rfl) (fun k hk => Nat.le_trans sm.size hk) hRm (HY2.out _ hbm) hbm (by have h := hn2.out; (try simp only [List.length_append, List.length_singleton]); omega) ?_
          intro vz wz hRz hbz hgz _
          rw [hr2.out] at hRz
          have sz := sm.grown hgz sm.size (fun k hk => hRm.1 k hk)
          refine hK.out _ _ sz (fun hHeld => ?_)
          clear hK K
          refine norm_ (a' := ?_) ?_ ?_
          rotate_left
          · show Act.put _ (some 57) _ = _
            simp only [Act.put, List.setIfInBounds_toArray, List.set_cons_zero, List.set_cons_succ, i64_w, i32_w]
            rfl
          obtain ⟨Az, cz, rfl⟩ := Kd.R_slice hRz
          have hoz := (sz.block _ (blk_lt hO.out)).trans hO.out
          have y0 := (blk_cell hoz 3).trans rfl
          have z0 := blk_frozen hoz 3
          refine pure_ (i := 17) (N := some 58) (v := ?_) (a' := ?_) #[true, true, true, true, true, true, true, true, true, true, true, true, true, true, true, true, true, true, false] rfl rfl (by kernel_rfl) (fun _ _ _ h => h) (Or.inl ⟨by rfl, ?_⟩) ?_ ?_
          rotate_left
          · intro w'
            go_simp
            with_reducible rfl
          rotate_left
          · simp only [Act.put, List.setIfInBounds_toArray, List.set_cons_zero, List.set_cons_succ, i64_w, i32_w]
            rfl
          refine last_ (i := 18) (N := none) #[true, true, true, true, true, true, true, true, true, true, true, true, true, true, true, true, true, true, true] rfl rfl (by kernel_rfl) (by decide) (fun K hK => ?_)
          refine skip_ (w1 := ?_) (by rfl) rfl ?_ ?_
          rotate_left
          · go_simp
            with_reducible rfl
          refine hK.out _ _ ?_
          clear hK K
          refine done_ (by kernel_rfl) ?_
          have hRf := hid (Kd.R_set (Kd.R_mono hRz (fun _ _ => trivial) : (Kd.int .i64).R 3 _ _ (fun _ => True) _ _) hoz (by decide) 3 (.slice Az r2.length cz))
          have hbf := hid (below_set hbz hgo.out 3 (.slice Az r2.length cz))
          have hof := hid (blk_set hoz 3 (.slice Az r2.length cz))
          have hxf := hid ((Below.heap_setCell wz ⟨go, 3, none⟩ (.slice Az r2.length cz) w.heap.size (by show w.heap.size ≠ go; have := hgo2.out; omega)).trans ((sz.block _ (blk_lt hx.out)).trans hx.out))
          have hrf := hid ((Below.heap_setCell wz ⟨go, 3, none⟩ (.slice Az r2.length cz) (w.heap.size + 1) (by show w.heap.size + 1 ≠ go; have := hgo2.out; omega)).trans ((sz.block _ (blk_lt hr.out)).trans hr.out))
          have hRp1 := hid (Kd.R_set (Kd.R_below hR1.out sz) hoz (by decide) 3 (.slice Az r2.length cz))
          go_wp2_with fail
          go_meet
          exact ⟨Az, cz, hRf, hRp1, hbf, hxf, hrf, hof⟩
      case rest =>
        clear hx hr hO hB hR1 d0 d1 d2 d3 g0 g1 g2 g3
        obtain ⟨A6, c6, hR2, hR1, hB, hx, hr, hO⟩ := hcut
        have g0 : wc.cell? ⟨go, 0, none⟩ = some (.bool false) := (blk_cell hO.out 0).trans rfl
        have g1 : wc.cell? ⟨go, 1, none⟩ = some (.slice A5 r1.length c5) := (blk_cell hO.out 1).trans rfl
        have g2 : wc.cell? ⟨go, 2, none⟩ = some (.slice none 0 0) := (blk_cell hO.out 2).trans rfl
        have g3 : wc.cell? ⟨go, 3, none⟩ = some (.slice A6 r2.length c6) := (blk_cell hO.out 3).trans rfl
        have e0 : wc.cell? ⟨w.heap.size + 1, 0, none⟩ = some (.bool false) := (blk_cell hr.out 0).trans rfl
        have f0 := blk_frozen (w := wc) hr.out 0
        have e1 : wc.cell? ⟨w.heap.size + 1, 1, none⟩ = some (.slice none 0 0) := (blk_cell hr.out 1).trans rfl
        have f1 := blk_frozen (w := wc) hr.out 1
        have e2 : wc.cell? ⟨w.heap.size + 1, 2, none⟩ = some (.slice none 0 0) := (blk_cell hr.out 2).trans rfl
        have f2 := blk_frozen (w := wc) hr.out 2
        have e3 : wc.cell? ⟨w.heap.size + 1, 3, none⟩ = some (.slice none 0 0) := (blk_cell hr.out 3).trans rfl
        have f3 := blk_frozen (w := wc) hr.out 3
        have hZ := hid (set4_at hr.out (.bool false) (.slice A5 r1.length c5) (.slice none 0 0) (.slice A6 r2.length c6))
        have hb := hid (set4_below hB.out (Nat.le_succ _) (.bool false) (.slice A5 r1.length c5) (.slice none 0 0) (.slice A6 r2.length c6))
        obtain ⟨-, l1', C1'⟩ := Kd.R_reads' (R_set4 hR1.out hr.out (by decide) (.bool false) (.slice A5 r1.length c5) (.slice none 0 0) (.slice A6 r2.length c6))
        replace l1' := hid l1'
        replace C1' := hid C1'
        obtain ⟨-, l2', C2'⟩ := Kd.R_reads' (R_set4 hR2.out hr.out (by decide) (.bool false) (.slice A5 r1.length c5) (.slice none 0 0) (.slice A6 r2.length c6))
        replace l2' := hid l2'
        replace C2' := hid C2'
        go_wp2_with fail
        refine bodyPost_ret (results_cell_row rfl _ _ (w.heap.size + 1) 36 #[.bool false, .slice A5 r1.length c5, .slice none 0 0, .slice A6 r2.length c6] (0, 0) _ rfl hZ.out Try.underlying36 rfl (by kernel_rfl)) rfl ?_
        exact ⟨_, rfl, At.mk_ (x := ⟨false, r1, [], r2⟩) C1'.out l1'.out (Kd.C_nil _ _) (Nat.le_refl _) C2'.out l2'.out, hb.out⟩
end Go.Proofs.Ytnghbfegijnolaa.A
