/-
  few: a node of few keys. An append in a drawn region.
  The document's Plain and Find, plainly.
-/
import Derived.Test.YtnghbfegijnolaaA7
import Derived.Deep.DeepCutAuto
import Derived.Lib.MinMax
import Derived.Test.YtnghbfegijnolaaB2
import Derived.Test.YtnghbfegijnolaaPx4
namespace Go.Proofs.Ytnghbfegijnolaa.A
set_option linter.unusedVariables false
set_option linter.unusedSimpArgs false
open Go.RowKit Go.Proofs.YtnghbfegijnolaaW.PrintWords Go.Proofs.YtnghbfegijnolaaW.PrintLast Go.Proofs.YtnghbfegijnolaaW.PrintMore
open Go.Lib (hid)
theorem app_ {P : Program} {ops : Array Oper} {Q : Exit → Act → World → Prop} {Kc : Act → World → Prop} {α : Type} (enc : α → Value) {h1 : ∀ x : α, (enc x).oneCell' = true} {o : Oper} {a : Act} {w0 W : World} {N : Option Tmp} (hN : o.dst = N) (hw : Region.wanted o (yielded ops a.tmps) = true) (s x : Operand) (t e : TypeId) (z : Value) (bytes : Nat)
    (ho : o.op = .call { callee := .builtin .append, args := #[s, x], argTypes := #[t, t] })
    (ht : P.underlying t = some (.slice e)) (hinfo : (P.info? e).map (fun i => (i.zero, i.size, i.bytes)) = some (some z, 1, bytes)) (hz : z.cells.size = 1) (hb0 : 0 < bytes)
    (v : Value) (xs ys : List α) (A : Option Addr) (m c : Nat) (ok : Nat → Prop) (hs : a.eval s = v) (hx : a.eval x = .slice A m c) (hfresh : ∀ k, W.heap.size ≤ k → ok k)
    (HO : (Kd.scalar enc h1).R e W w0.heap.size ok v xs) (HR : (Kd.scalar enc h1).C W A m ys) (HB : Below w0.heap.size w0 W) (hl : (xs.length + m) * bytes ≤ 140737488355328)
    (h : ∀ v1 w1, (Kd.scalar enc h1).R e w1 w0.heap.size ok v1 (xs ++ ys) → Below w0.heap.size w0 w1 → W.grownBy w1 v.ownBlock → (v1.ownBlock = v.ownBlock ∨ ∃ b, v1.ownBlock = some b ∧ W.heap.size ≤ b) → Kc (a.put N v1) w1) :
    if Region.wanted o (yielded ops a.tmps) = true then Oper.wp P o a W Kc Q else Kc (a.put N undef) W := by
  subst hN
  exact Kd.R_append_rows_step (Kd.scalar enc h1) (Rr := fun x cs => cs = [enc x]) w0.heap.size hw s x t e z bytes ho ht hinfo hz (by show 0 < 1; decide) hb0 v xs ys A m c ok (fun _ => False) hs hx HO HR (fun x cs h => h) (fun k hk => hk.elim) hfresh HB HB.size hl h
theorem grown_self {w w' : World} {v : Value} (hg : w.grownBy w' v.ownBlock) (hv : v.ownBlock = none) : Below w.heap.size w w' :=
  (Below.refl w.heap.size w).grown hg (Nat.le_refl _) (fun k hk => by rw [hv] at hk; cases hk)
def fewF (x : Nd) : Nd := ⟨x.leaf, x.keys.take 30, x.vals.take 30, x.kids.take 31⟩
set_option maxHeartbeats 1000000 in
set_option maxRecDepth 100000 in
theorem few_walk (x : Nd) (v : Value) (w : World) (H : At w v x) :
    Calls Try.prog 23 #[v] w fun e w' => ∃ v', e = .returned v' ∧ At w' v' (fewF x) ∧ Below w.heap.size w w' := by
  obtain ⟨A1, c1, A2, c2, A3, c3, rfl, ⟨h1, l1⟩, ⟨h2, l2⟩, ⟨h3, l3⟩⟩ := H
  obtain ⟨leaf, keys, vals, kids⟩ := x
  simp only at h1 l1 h2 l2 h3 l3 ⊢
  have hx : Hid (((w.alloc (.cells #[.bool leaf, .slice A1 keys.length c1, .slice A2 vals.length c2, .slice A3 kids.length c3] 29)).alloc (.cells #[.bool false, .slice none 0 0, .slice none 0 0, .slice none 0 0] 29)).heap[w.heap.size]? = some (.cells #[.bool leaf, .slice A1 keys.length c1, .slice A2 vals.length c2, .slice A3 kids.length c3] 29 (0, 0))) := hid (alloc2_fst w _ _)
  have hr : Hid (((w.alloc (.cells #[.bool leaf, .slice A1 keys.length c1, .slice A2 vals.length c2, .slice A3 kids.length c3] 29)).alloc (.cells #[.bool false, .slice none 0 0, .slice none 0 0, .slice none 0 0] 29)).heap[w.heap.size + 1]? = some (.cells #[.bool false, .slice none 0 0, .slice none 0 0, .slice none 0 0] 29 (0, 0))) := hid (alloc2_snd w _ _)
  have hB := hid (below_alloc (below_alloc (Below.refl w.heap.size w) (.cells #[.bool leaf, .slice A1 keys.length c1, .slice A2 vals.length c2, .slice A3 kids.length c3] 29)) (.cells #[.bool false, .slice none 0 0, .slice none 0 0, .slice none 0 0] 29))
  rw [fewF]
  simp only
  have hin1 : (Try.prog.info? 23).map (fun i => i.size) = some 1 := by kernel_rfl
  obtain ⟨i1, hi1, hsz1⟩ := Option.map_eq_some_iff.1 hin1
  obtain ⟨m1, hm1⟩ : ∃ m, m = min keys.length 30 := ⟨_, rfl⟩
  have e1 : min (keys.length : Int) 30 = (m1 : Int) := by omega
  have hF1 := front_C 25 23 Try.underlying25 hi1 A1 keys c1 m1 (by omega) l1
  have ht1 : keys.take 30 = keys.take m1 := by rw [hm1]; rcases Nat.le_total keys.length 30 with h | h; rw [Nat.min_eq_left h, List.take_of_length_le h, List.take_length]; rw [Nat.min_eq_right h]
  have HT1 := hid (Kd.C_take h1 (m := m1) (by omega))
  have hn1 : Hid ((0 + (keys.take m1).length) * 8 ≤ 140737488355328) := hid (by rw [List.length_take]; omega)
  rw [ht1]
  clear hin1 hi1 hsz1 ht1 hm1
  generalize keys.take m1 = r1 at *
  have hin2 : (Try.prog.info? 9).map (fun i => i.size) = some 1 := by kernel_rfl
  obtain ⟨i2, hi2, hsz2⟩ := Option.map_eq_some_iff.1 hin2
  obtain ⟨m2, hm2⟩ : ∃ m, m = min vals.length 30 := ⟨_, rfl⟩
  have e2 : min (vals.length : Int) 30 = (m2 : Int) := by omega
  have hF2 := front_C 26 9 Try.underlying26 hi2 A2 vals c2 m2 (by omega) l2
  have ht2 : vals.take 30 = vals.take m2 := by rw [hm2]; rcases Nat.le_total vals.length 30 with h | h; rw [Nat.min_eq_left h, List.take_of_length_le h, List.take_length]; rw [Nat.min_eq_right h]
  have HT2 := hid (Kd.C_take h2 (m := m2) (by omega))
  have hn2 : Hid ((0 + (vals.take m2).length) * 16 ≤ 140737488355328) := hid (by rw [List.length_take]; omega)
  rw [ht2]
  clear hin2 hi2 hsz2 ht2 hm2
  generalize vals.take m2 = r2 at *
  have hin3 : (Try.prog.info? 3).map (fun i => i.size) = some 1 := by kernel_rfl
  obtain ⟨i3, hi3, hsz3⟩ := Option.map_eq_some_iff.1 hin3
  obtain ⟨m3, hm3⟩ : ∃ m, m = min kids.length 31 := ⟨_, rfl⟩
  have e3 : min (kids.length : Int) 31 = (m3 : Int) := by omega
  have hF3 := front_C 27 3 Try.underlying27 hi3 A3 kids c3 m3 (by omega) l3
  have ht3 : kids.take 31 = kids.take m3 := by rw [hm3]; rcases Nat.le_total kids.length 31 with h | h; rw [Nat.min_eq_left h, List.take_of_length_le h, List.take_length]; rw [Nat.min_eq_right h]
  have HT3 := hid (Kd.C_take h3 (m := m3) (by omega))
  have hn3 : Hid ((0 + (kids.take m3).length) * 8 ≤ 140737488355328) := hid (by rw [List.length_take]; omega)
  rw [ht3]
  clear hin3 hi3 hsz3 ht3 hm3
  generalize kids.take m3 = r3 at *
  clear h1 h2 h3
  go_enter Try.func23, Try.ntmps23
  go_upto_region 1 with fail
  generalize (w.alloc (.cells #[.bool leaf, .slice A1 keys.length c1, .slice A2 vals.length c2, .slice A3 kids.length c3] 29)).alloc (.cells #[.bool false, .slice none 0 0, .slice none 0 0, .slice none 0 0] 29) = w1 at *
  have hlr := hid (show w.heap.size + 1 < w1.heap.size from blk_lt hr.out)
  have d0 : w1.cell? ⟨w.heap.size, 0, none⟩ = some (.bool leaf) := (blk_cell hx.out 0).trans rfl
  have f0 := blk_frozen (w := w1) hx.out 0
  have d1 : w1.cell? ⟨w.heap.size, 1, none⟩ = some (.slice A1 keys.length c1) := (blk_cell hx.out 1).trans rfl
  have f1 := blk_frozen (w := w1) hx.out 1
  have d2 : w1.cell? ⟨w.heap.size, 2, none⟩ = some (.slice A2 vals.length c2) := (blk_cell hx.out 2).trans rfl
  have f2 := blk_frozen (w := w1) hx.out 2
  have d3 : w1.cell? ⟨w.heap.size, 3, none⟩ = some (.slice A3 kids.length c3) := (blk_cell hx.out 3).trans rfl
  have f3 := blk_frozen (w := w1) hx.out 3
  have HC := hid (Kd.C_below HT1.out hB.out)
  go_upto_region 2 with (first | (at_builtin; refine Kd.R_append_row (Value.int .u64) (0 : Int) (w0 := w) w.heap.size rfl _ (.tmp 9) 25 23 (.int .u64 0) 8 rfl Try.underlying25 (by kernel_rfl) rfl (by decide) _ [] r1 _ _ _ (fun k => w1.heap.size ≤ k) rfl rfl (fun k hk => hk) (Kd.R_nil _ _ _ _ _) HC.out hB.out hB.out.size hn1.out ?_; intro v1 v1 hR hb hg _; rw [List.nil_append] at hR; have hs := hid (grown_self hg rfl); obtain ⟨A5, c5, rfl, p1, q1⟩ := Kd.R_reads hR; replace p1 := hid p1; replace q1 := hid q1; have n1 := hid (fun ad (e : A5 = some ad) => hR.1 ad.block (by subst e; rfl)); clear hR hg HC; replace hB := hid hb; clear hb; replace hx := hid ((hs.out.block _ (blk_lt hx.out)).trans hx.out); replace hr := hid ((hs.out.block _ (blk_lt hr.out)).trans hr.out); clear d0 f0 d1 f1 d2 f2 d3 f3; have d1 := (blk_cell hx.out 1).trans rfl; have f1 := blk_frozen hx.out 1))
  have hx2 := hid (blk_set hx.out 1 (.slice A5 r1.length c5))
  have hr2 := hid ((Below.heap_setCell v1 ⟨w.heap.size, 1, none⟩ (.slice A5 r1.length c5) (w.heap.size + 1) (by show w.heap.size + 1 ≠ w.heap.size; omega)).trans hr.out)
  have hB2 := hid (below_set hB.out (Nat.le_refl _) 1 (.slice A5 r1.length c5))
  have lw1 := hid (show w.heap.size < w1.heap.size from Nat.lt_of_lt_of_le (Nat.lt_succ_self _) (Nat.le_of_lt hlr.out))
  replace q1 := hid (C_far1 q1.out (fun ad e => (show ad.block ≠ w.heap.size from by have h1 := n1.out ad e; have h2 := lw1.out; omega)) 1 (.slice A5 r1.length c5))
  clear hx hr hB hs d1 f1
  generalize v1.setCell ⟨w.heap.size, 1, none⟩ (.slice A5 r1.length c5) = w2 at *
  have hx : Hid (w2.heap[w.heap.size]? = some (.cells #[.bool leaf, .slice A5 r1.length c5, .slice A2 vals.length c2, .slice A3 kids.length c3] 29 (0, 0))) := hid hx2.out
  have hr := hr2
  have hB := hB2
  clear hx2 hr2 hB2
  replace hlr := hid (show w.heap.size + 1 < w2.heap.size from blk_lt hr.out)
  have d0 : w2.cell? ⟨w.heap.size, 0, none⟩ = some (.bool leaf) := (blk_cell hx.out 0).trans rfl
  have f0 := blk_frozen (w := w2) hx.out 0
  have d1 : w2.cell? ⟨w.heap.size, 1, none⟩ = some (.slice A5 r1.length c5) := (blk_cell hx.out 1).trans rfl
  have f1 := blk_frozen (w := w2) hx.out 1
  have d2 : w2.cell? ⟨w.heap.size, 2, none⟩ = some (.slice A2 vals.length c2) := (blk_cell hx.out 2).trans rfl
  have f2 := blk_frozen (w := w2) hx.out 2
  have d3 : w2.cell? ⟨w.heap.size, 3, none⟩ = some (.slice A3 kids.length c3) := (blk_cell hx.out 3).trans rfl
  have f3 := blk_frozen (w := w2) hx.out 3
  have HC := hid (Kd.C_below HT2.out hB.out)
  go_upto_region 3 with (first | (at_builtin; refine Kd.R_append_row (Value.string) (⟨#[]⟩ : ByteArray) (w0 := w) w.heap.size rfl _ (.tmp 18) 26 9 (.string ⟨#[]⟩) 16 rfl Try.underlying26 (by kernel_rfl) rfl (by decide) _ [] r2 _ _ _ (fun k => w2.heap.size ≤ k) rfl rfl (fun k hk => hk) (Kd.R_nil _ _ _ _ _) HC.out hB.out hB.out.size hn2.out ?_; intro v1 v2 hR hb hg _; rw [List.nil_append] at hR; have hs := hid (grown_self hg rfl); obtain ⟨A6, c6, rfl, p2, q2⟩ := Kd.R_reads hR; replace p2 := hid p2; replace q2 := hid q2; have n2 := hid (fun ad (e : A6 = some ad) => hR.1 ad.block (by subst e; rfl)); clear hR hg HC; replace hB := hid hb; clear hb; replace q1 := hid (Kd.C_below q1.out hs.out); replace hx := hid ((hs.out.block _ (blk_lt hx.out)).trans hx.out); replace hr := hid ((hs.out.block _ (blk_lt hr.out)).trans hr.out); clear d0 f0 d1 f1 d2 f2 d3 f3; have d2 := (blk_cell hx.out 2).trans rfl; have f2 := blk_frozen hx.out 2))
  have hx2 := hid (blk_set hx.out 2 (.slice A6 r2.length c6))
  have hr2 := hid ((Below.heap_setCell v2 ⟨w.heap.size, 2, none⟩ (.slice A6 r2.length c6) (w.heap.size + 1) (by show w.heap.size + 1 ≠ w.heap.size; omega)).trans hr.out)
  have hB2 := hid (below_set hB.out (Nat.le_refl _) 2 (.slice A6 r2.length c6))
  replace q1 := hid (C_far1 q1.out (fun ad e => (show ad.block ≠ w.heap.size from by have h1 := n1.out ad e; have h2 := lw1.out; omega)) 2 (.slice A6 r2.length c6))
  have lw2 := hid (show w.heap.size < w2.heap.size from Nat.lt_of_lt_of_le (Nat.lt_succ_self _) (Nat.le_of_lt hlr.out))
  replace q2 := hid (C_far1 q2.out (fun ad e => (show ad.block ≠ w.heap.size from by have h1 := n2.out ad e; have h2 := lw2.out; omega)) 2 (.slice A6 r2.length c6))
  clear hx hr hB hs d2 f2
  generalize v2.setCell ⟨w.heap.size, 2, none⟩ (.slice A6 r2.length c6) = w3 at *
  have hx : Hid (w3.heap[w.heap.size]? = some (.cells #[.bool leaf, .slice A5 r1.length c5, .slice A6 r2.length c6, .slice A3 kids.length c3] 29 (0, 0))) := hid hx2.out
  have hr := hr2
  have hB := hB2
  clear hx2 hr2 hB2
  replace hlr := hid (show w.heap.size + 1 < w3.heap.size from blk_lt hr.out)
  have d0 : w3.cell? ⟨w.heap.size, 0, none⟩ = some (.bool leaf) := (blk_cell hx.out 0).trans rfl
  have f0 := blk_frozen (w := w3) hx.out 0
  have d1 : w3.cell? ⟨w.heap.size, 1, none⟩ = some (.slice A5 r1.length c5) := (blk_cell hx.out 1).trans rfl
  have f1 := blk_frozen (w := w3) hx.out 1
  have d2 : w3.cell? ⟨w.heap.size, 2, none⟩ = some (.slice A6 r2.length c6) := (blk_cell hx.out 2).trans rfl
  have f2 := blk_frozen (w := w3) hx.out 2
  have d3 : w3.cell? ⟨w.heap.size, 3, none⟩ = some (.slice A3 kids.length c3) := (blk_cell hx.out 3).trans rfl
  have f3 := blk_frozen (w := w3) hx.out 3
  have HC := hid (Kd.C_below HT3.out hB.out)
  go_upto_region 4 with (first | (at_builtin; refine Kd.R_append_row (Value.int .i64) (0 : Int) (w0 := w) w.heap.size rfl _ (.tmp 27) 27 3 (.int .i64 0) 8 rfl Try.underlying27 (by kernel_rfl) rfl (by decide) _ [] r3 _ _ _ (fun k => w3.heap.size ≤ k) rfl rfl (fun k hk => hk) (Kd.R_nil _ _ _ _ _) HC.out hB.out hB.out.size hn3.out ?_; intro v1 v3 hR hb hg _; rw [List.nil_append] at hR; have hs := hid (grown_self hg rfl); obtain ⟨A7, c7, rfl, p3, q3⟩ := Kd.R_reads hR; replace p3 := hid p3; replace q3 := hid q3; have n3 := hid (fun ad (e : A7 = some ad) => hR.1 ad.block (by subst e; rfl)); clear hR hg HC; replace hB := hid hb; clear hb; replace q1 := hid (Kd.C_below q1.out hs.out); replace q2 := hid (Kd.C_below q2.out hs.out); replace hx := hid ((hs.out.block _ (blk_lt hx.out)).trans hx.out); replace hr := hid ((hs.out.block _ (blk_lt hr.out)).trans hr.out); clear d0 f0 d1 f1 d2 f2 d3 f3; have d3 := (blk_cell hx.out 3).trans rfl; have f3 := blk_frozen hx.out 3))
  have hx2 := hid (blk_set hx.out 3 (.slice A7 r3.length c7))
  have hr2 := hid ((Below.heap_setCell v3 ⟨w.heap.size, 3, none⟩ (.slice A7 r3.length c7) (w.heap.size + 1) (by show w.heap.size + 1 ≠ w.heap.size; omega)).trans hr.out)
  have hB2 := hid (below_set hB.out (Nat.le_refl _) 3 (.slice A7 r3.length c7))
  replace q1 := hid (C_far1 q1.out (fun ad e => (show ad.block ≠ w.heap.size from by have h1 := n1.out ad e; have h2 := lw1.out; omega)) 3 (.slice A7 r3.length c7))
  replace q2 := hid (C_far1 q2.out (fun ad e => (show ad.block ≠ w.heap.size from by have h1 := n2.out ad e; have h2 := lw2.out; omega)) 3 (.slice A7 r3.length c7))
  have lw3 := hid (show w.heap.size < w3.heap.size from Nat.lt_of_lt_of_le (Nat.lt_succ_self _) (Nat.le_of_lt hlr.out))
  replace q3 := hid (C_far1 q3.out (fun ad e => (show ad.block ≠ w.heap.size from by have h1 := n3.out ad e; have h2 := lw3.out; omega)) 3 (.slice A7 r3.length c7))
  clear hx hr hB hs d3 f3
  generalize v3.setCell ⟨w.heap.size, 3, none⟩ (.slice A7 r3.length c7) = w4 at *
  have hx : Hid (w4.heap[w.heap.size]? = some (.cells #[.bool leaf, .slice A5 r1.length c5, .slice A6 r2.length c6, .slice A7 r3.length c7] 29 (0, 0))) := hid hx2.out
  have hr := hr2
  have hB := hB2
  clear hx2 hr2 hB2
  replace hlr := hid (show w.heap.size + 1 < w4.heap.size from blk_lt hr.out)
  have d0 : w4.cell? ⟨w.heap.size, 0, none⟩ = some (.bool leaf) := (blk_cell hx.out 0).trans rfl
  have d1 : w4.cell? ⟨w.heap.size, 1, none⟩ = some (.slice A5 r1.length c5) := (blk_cell hx.out 1).trans rfl
  have d2 : w4.cell? ⟨w.heap.size, 2, none⟩ = some (.slice A6 r2.length c6) := (blk_cell hx.out 2).trans rfl
  have d3 : w4.cell? ⟨w.heap.size, 3, none⟩ = some (.slice A7 r3.length c7) := (blk_cell hx.out 3).trans rfl
  have e0 : w4.cell? ⟨w.heap.size + 1, 0, none⟩ = some (.bool false) := (blk_cell hr.out 0).trans rfl
  have f0 := blk_frozen (w := w4) hr.out 0
  have e1 : w4.cell? ⟨w.heap.size + 1, 1, none⟩ = some (.slice none 0 0) := (blk_cell hr.out 1).trans rfl
  have f1 := blk_frozen (w := w4) hr.out 1
  have e2 : w4.cell? ⟨w.heap.size + 1, 2, none⟩ = some (.slice none 0 0) := (blk_cell hr.out 2).trans rfl
  have f2 := blk_frozen (w := w4) hr.out 2
  have e3 : w4.cell? ⟨w.heap.size + 1, 3, none⟩ = some (.slice none 0 0) := (blk_cell hr.out 3).trans rfl
  have f3 := blk_frozen (w := w4) hr.out 3
  have hAt := hid (At.set4 (show At w4 (.agg #[.bool leaf, .slice A5 r1.length c5, .slice A6 r2.length c6, .slice A7 r3.length c7]) ⟨leaf, r1, r2, r3⟩ from At.mk_ (x := ⟨leaf, r1, r2, r3⟩) q1.out p1.out q2.out p2.out q3.out p3.out) hr.out (.bool leaf) (.slice A5 r1.length c5) (.slice A6 r2.length c6) (.slice A7 r3.length c7))
  have hZ := hid (set4_at hr.out (.bool leaf) (.slice A5 r1.length c5) (.slice A6 r2.length c6) (.slice A7 r3.length c7))
  have hb := hid (set4_below hB.out (Nat.le_succ _) (.bool leaf) (.slice A5 r1.length c5) (.slice A6 r2.length c6) (.slice A7 r3.length c7))
  go_wp2_with fail
  refine bodyPost_ret (results_cell_row rfl _ _ (w.heap.size + 1) 29 #[.bool leaf, .slice A5 r1.length c5, .slice A6 r2.length c6, .slice A7 r3.length c7] (0, 0) _ rfl hZ.out Try.underlying29 rfl (by kernel_rfl)) rfl ?_
  exact ⟨_, rfl, hAt.out, hb.out⟩
end Go.Proofs.Ytnghbfegijnolaa.A
namespace Go.Proofs.Ytnghbfegijnolaa.A
set_option linter.unusedVariables false
set_option linter.unusedSimpArgs false
open Go.RowKit Go.Proofs.YtnghbfegijnolaaW.PrintWords Go.Proofs.YtnghbfegijnolaaW.PrintLast Go.Proofs.YtnghbfegijnolaaW.PrintMore
open Go.Lib (hid)
open Go.Proofs.Ytnghbfegijnolaa.P
/-- A node that is plain. -/
structure PlainNd (x : Nd) : Prop where
  leaf : x.leaf = true → x.vals.length = x.keys.length ∧ x.kids = []
  branch : x.leaf = false → x.kids.length = x.keys.length + 1 ∧ x.vals = []
  rise : Rise x.keys
  small : ∀ v ∈ x.vals, v.size ≤ 40
  kid : ∀ k ∈ x.kids, 2 ≤ k ∧ k < 640
theorem plain_l2 (a : Bool) (ks : List Int) (vs : List ByteArray) (us : List Int) (hb : us.length < 4611686018427387904) : ∀ m i k, i + m = us.length → m < k → ∃ b, bailiwickref10_Plain.l2 k (i : Int) a ks vs us = some b ∧ (b = true → ∀ u ∈ us.drop i, 2 ≤ u ∧ u < 640)
  | 0, i, 0, h, hk => by omega
  | m, i, k + 1, h, hk => by
    rw [bailiwickref10_Plain.l2]
    by_cases hi : i < us.length
    · rw [if_pos (by omega), if_pos (by omega)]
      have e1 : rd us (i : Int) = us.getD i 0 := by simp [rd]
      rw [e1]
      by_cases h1 : us.getD i 0 < 2
      · rw [if_pos h1]; exact ⟨false, rfl, fun h => by cases h⟩
      · rw [if_neg h1]
        by_cases h2 : us.getD i 0 ≥ 640
        · rw [if_pos h2]; exact ⟨false, rfl, fun h => by cases h⟩
        · rw [if_neg h2, wr64 ((i : Int) + 1) (by omega) (by omega), show ((i : Int) + 1) = ((i + 1 : Nat) : Int) by omega]
          obtain ⟨b, e, hb2⟩ := plain_l2 a ks vs us hb (m - 1) (i + 1) k (by omega) (by omega)
          refine ⟨b, e, fun hbt u hu => ?_⟩
          rw [drop_getD us 0 i hi, List.mem_cons] at hu
          rcases hu with rfl | hu
          · omega
          · exact hb2 hbt u hu
    · rw [if_neg (by omega), List.drop_eq_nil_of_le (by omega)]
      exact ⟨true, rfl, fun _ u hu => by cases hu⟩
theorem plain_l1 (a : Bool) (ks : List Int) (vs : List ByteArray) (us : List Int) (hv : vs.length < 4611686018427387904) (hb : us.length < 4611686018427387904) : ∀ m i k, i + m = vs.length → m + us.length + 1 < k → ∃ b, bailiwickref10_Plain.l1 k (i : Int) a ks vs us = some b ∧ (b = true → (∀ v ∈ vs.drop i, v.size ≤ 40) ∧ ∀ u ∈ us, 2 ≤ u ∧ u < 640)
  | 0, i, 0, h, hk => by omega
  | m, i, k + 1, h, hk => by
    rw [bailiwickref10_Plain.l1]
    by_cases hi : i < vs.length
    · rw [if_pos (by omega), if_pos (by omega)]
      have e1 : rdOf ByteArray.empty vs (i : Int) = vs.getD i ByteArray.empty := by simp [rdOf]
      rw [e1]
      by_cases h1 : ((vs.getD i ByteArray.empty).size : Int) > 40
      · rw [if_pos h1]; exact ⟨false, rfl, fun h => by cases h⟩
      · rw [if_neg h1, wr64 ((i : Int) + 1) (by omega) (by omega), show ((i : Int) + 1) = ((i + 1 : Nat) : Int) by omega]
        obtain ⟨b, e, hb2⟩ := plain_l1 a ks vs us hv hb (m - 1) (i + 1) k (by omega) (by omega)
        refine ⟨b, e, fun hbt => ⟨fun u hu => ?_, (hb2 hbt).2⟩⟩
        rw [drop_getD vs ByteArray.empty i hi, List.mem_cons] at hu
        rcases hu with rfl | hu
        · omega
        · exact (hb2 hbt).1 u hu
    · rw [if_neg (by omega), List.drop_eq_nil_of_le (by omega)]
      obtain ⟨b, e, hb2⟩ := plain_l2 a ks vs us hb us.length 0 k (by omega) (by omega)
      exact ⟨b, e, fun hbt => ⟨fun u hu => (by cases hu), fun u hu => hb2 hbt u (by rw [List.drop_zero]; exact hu)⟩⟩
theorem plain_l0 (a : Bool) (ks : List Int) (vs : List ByteArray) (us : List Int) (hk0 : ks.length < 4611686018427387904) (hv : vs.length < 4611686018427387904) (hb : us.length < 4611686018427387904) : ∀ m i k, i + m = ks.length → m + vs.length + us.length + 2 < k → ∃ b, bailiwickref10_Plain.l0 k ((i + 1 : Nat) : Int) a ks vs us = some b ∧ (b = true → (∀ j, i ≤ j → j + 1 < ks.length → ks.getD j 0 < ks.getD (j + 1) 0) ∧ (∀ v ∈ vs, v.size ≤ 40) ∧ ∀ u ∈ us, 2 ≤ u ∧ u < 640)
  | 0, i, 0, h, hk => by omega
  | m, i, k + 1, h, hk => by
    rw [bailiwickref10_Plain.l0]
    by_cases hi : i + 1 < ks.length
    · rw [if_pos (by omega), show ((i + 1 : Nat) : Int) - 1 = (i : Int) by omega, wr64 (i : Int) (by omega) (by omega), if_pos (by omega), if_pos (by omega), if_pos (by omega)]
      have e1 : rd ks (i : Int) = ks.getD i 0 := by simp [rd]
      have e2 : rd ks ((i + 1 : Nat) : Int) = ks.getD (i + 1) 0 := by rw [rd, Int.toNat_natCast]
      rw [e1, e2]
      by_cases h1 : ks.getD i 0 ≥ ks.getD (i + 1) 0
      · rw [if_pos h1]; exact ⟨false, rfl, fun h => by cases h⟩
      · rw [if_neg h1, wr64 (((i + 1 : Nat) : Int) + 1) (by omega) (by omega), show (((i + 1 : Nat) : Int) + 1) = ((i + 1 + 1 : Nat) : Int) by omega]
        obtain ⟨b, e, hb2⟩ := plain_l0 a ks vs us hk0 hv hb (m - 1) (i + 1) k (by omega) (by omega)
        refine ⟨b, e, fun hbt => ⟨fun j hj hl => ?_, (hb2 hbt).2⟩⟩
        rcases Nat.eq_or_lt_of_le hj with rfl | hj
        · omega
        · exact (hb2 hbt).1 j hj hl
    · rw [if_neg (by omega)]
      obtain ⟨b, e, hb2⟩ := plain_l1 a ks vs us hv hb vs.length 0 k (by omega) (by omega)
      exact ⟨b, e, fun hbt => ⟨fun j hj hl => (by omega), fun v hv => (hb2 hbt).1 v (by rw [List.drop_zero]; exact hv), (hb2 hbt).2⟩⟩
theorem rise_step {l : List Int} (h : ∀ j, j + 1 < l.length → l.getD j 0 < l.getD (j + 1) 0) : Rise l := by
  have hlt : ∀ d i, i + d + 1 < l.length → l.getD i 0 < l.getD (i + d + 1) 0 := by
    intro d
    induction d with
    | zero => intro i hi; exact h i hi
    | succ d ih =>
      intro i hi
      have h1 := ih i (by omega)
      have h2 := h (i + d + 1) (by omega)
      have h3 : i + (d + 1) + 1 = i + d + 1 + 1 := by omega
      rw [h3]
      omega
  unfold Rise
  rw [List.pairwise_iff_getElem]
  intro i j hi hj hij
  have := hlt (j - i - 1) i (by omega)
  rw [show i + (j - i - 1) + 1 = j by omega] at this
  rwa [getD_of hi, getD_of hj] at this
theorem plain_f (x : Nd) (k : Nat) (hk : x.keys.length + x.vals.length + x.kids.length + 5 ≤ k) (h1 : x.keys.length ≤ 1099511627776) (h2 : x.vals.length ≤ 1099511627776) (h3 : x.kids.length ≤ 1099511627776) : ∃ b, bailiwickref10_Plain.f k x.leaf x.keys x.vals x.kids = some b ∧ (b = true → PlainNd x) := by
  obtain ⟨k, rfl⟩ : ∃ j, k = j + 1 := ⟨k - 1, by omega⟩
  obtain ⟨b, e, hb⟩ := plain_l0 x.leaf x.keys x.vals x.kids (by omega) (by omega) (by omega) x.keys.length 0 k (by omega) (by omega)
  have e' : bailiwickref10_Plain.l0 k 1 x.leaf x.keys x.vals x.kids = some b := e
  rw [bailiwickref10_Plain.f]
  by_cases hl : x.leaf = true
  · rw [if_pos hl]
    by_cases c1 : (x.vals.length : Int) = (x.keys.length : Int)
    · rw [if_pos c1]
      by_cases c2 : (x.kids.length : Int) > 0
      · rw [if_pos c2, bailiwickref10_Plain.j0, if_pos rfl]; exact ⟨false, rfl, fun h => by cases h⟩
      · rw [if_neg c2, bailiwickref10_Plain.j0, if_neg (by decide), e']
        exact ⟨b, rfl, fun hbt => ⟨fun _ => ⟨by omega, List.eq_nil_of_length_eq_zero (by omega)⟩, fun h => (by rw [hl] at h; cases h), rise_step (fun j hj => (hb hbt).1 j (Nat.zero_le _) hj), (hb hbt).2.1, (hb hbt).2.2⟩⟩
    · rw [if_neg c1, bailiwickref10_Plain.j0, if_pos rfl]; exact ⟨false, rfl, fun h => by cases h⟩
  · rw [if_neg hl, wr64 ((x.keys.length : Int) + 1) (by omega) (by omega)]
    by_cases c1 : (x.kids.length : Int) = (x.keys.length : Int) + 1
    · rw [if_pos c1, bailiwickref10_Plain.j0]
      by_cases c2 : (x.vals.length : Int) > 0
      · rw [if_pos (by simpa using c2)]; exact ⟨false, rfl, fun h => by cases h⟩
      · rw [if_neg (by simpa using c2), e']
        exact ⟨b, rfl, fun hbt => ⟨fun h => absurd h hl, fun _ => ⟨by omega, List.eq_nil_of_length_eq_zero (by omega)⟩, rise_step (fun j hj => (hb hbt).1 j (Nat.zero_le _) hj), (hb hbt).2.1, (hb hbt).2.2⟩⟩
    · rw [if_neg c1, bailiwickref10_Plain.j0, if_pos rfl]; exact ⟨false, rfl, fun h => by cases h⟩
theorem rplain_walk (x : Nd) (h1 : x.keys.length ≤ 1099511627776) (h2 : x.vals.length ≤ 1099511627776) (h3 : x.kids.length ≤ 1099511627776) : ∃ b : Bool, (b = true → PlainNd x) ∧ ∀ (v : Value) (w : World), At w v x →
    Calls Try.prog 24 #[v] w fun e w' => e = .returned (.bool b) ∧ Below w.heap.size w w' := by
  obtain ⟨b, e, hb⟩ := plain_f x _ (Nat.le_refl _) h1 h2 h3
  refine ⟨b, hb, fun v w H => ?_⟩
  obtain ⟨A1, c1, A2, c2, A3, c3, rfl, ⟨g1, l1⟩, ⟨g2, l2⟩, ⟨g3, l3⟩⟩ := H
  exact bailiwickref10_Plain.calls (x.keys.length + x.vals.length + x.kids.length + 5) x.leaf A1 c1 x.keys A2 c2 x.vals A3 c3 x.kids b w g1 l1 g2 l2 g3 l3 e
set_option maxHeartbeats 1000000 in
set_option maxRecDepth 100000 in
theorem rfind_walk (x : Nd) (v : Value) (key : Int) (w : World) (hr : Rise x.keys) (H : At w v x) (hmx : x.keys.length ≤ 1099511627776) :
    Calls Try.prog 25 #[v, .int .u64 key] w fun e w' => e = .returned (.tuple #[.int .i64 (findF x key).1, .bool (findF x key).2]) ∧ Below w.heap.size w w' := by
  have HA := hid H
  obtain ⟨A1, c1, A2, c2, A3, c3, rfl, ⟨h1, l1⟩, ⟨h2, l2⟩, ⟨h3, l3⟩⟩ := H
  have hB := hid (below_alloc (Below.refl w.heap.size w) (.cells #[.bool x.leaf, .slice A1 x.keys.length c1, .slice A2 x.vals.length c2, .slice A3 x.kids.length c3] 36))
  have hx : Hid ((w.alloc (.cells #[.bool x.leaf, .slice A1 x.keys.length c1, .slice A2 x.vals.length c2, .slice A3 x.kids.length c3] 36)).heap[w.heap.size]? = some (.cells #[.bool x.leaf, .slice A1 x.keys.length c1, .slice A2 x.vals.length c2, .slice A3 x.kids.length c3] 36 (0, 0))) := hid Array.getElem?_push_size
  have HC := hid (fun W (hb : Below w.heap.size w W) i hi => C_one (Kd.C_below h1 hb) 0 i hi)
  have hp := place_spec hr key
  have hst : isAt x.keys key = true ↔ (place x.keys key < x.keys.length ∧ x.keys.getD (place x.keys key) 0 = key) := by unfold isAt; rw [Bool.and_eq_true, decide_eq_true_eq, beq_iff_eq]
  clear h1 h2 h3 HA hr
  obtain ⟨leaf, keys, vals, kids⟩ := x
  simp only at hB hx HC hp hst hmx ⊢
  rw [findF]
  simp only
  generalize place keys key = p at hp hst ⊢
  generalize isAt keys key = t at hst ⊢
  obtain ⟨hp1, hp2, hp3⟩ := hp
  have hp2' := hid hp2
  have hp3' := hid hp3
  have hst' := hid hst
  clear hp2 hp3 hst
  go_enter Try.func25, Try.ntmps25
  go_wp2_with fail
  generalize w.alloc (.cells #[.bool leaf, .slice A1 keys.length c1, .slice A2 vals.length c2, .slice A3 kids.length c3] 36) = w1 at *
  have d0 : w1.cell? ⟨w.heap.size, 0, none⟩ = some (.bool leaf) := (blk_cell hx.out 0).trans rfl
  have d1 : w1.cell? ⟨w.heap.size, 1, none⟩ = some (.slice A1 keys.length c1) := (blk_cell hx.out 1).trans rfl
  go_loopg [6] p (fun g v6 wr => ∃ i : Nat, v6 = .int .i64 (i : Int) ∧ i + g = p ∧ Hid (wr = w1))
  case atStart => exact ⟨0, rfl, by omega, hid rfl⟩
  case round =>
    obtain ⟨i, rfl, hi, hwr⟩ := hrel
    rw [hwr.out]
    by_cases hlt : i < p
    · cases gk with
      | zero => omega
      | succ g =>
        have a1 : (i : Int) < (keys.length : Int) := by omega
        have a2 := hp2'.out i hlt
        obtain ⟨ad, hA, hc⟩ := HC.out w1 hB.out i (by omega)
        subst hA
        generalize keys.getD i 0 = y at *
        go_wp2_with fail
        go_roundg g
        case measure => omega
        case rel => exact ⟨i + 1, by first | rfl | go_num, by omega, hid rfl⟩
    · obtain rfl : i = p := by omega
      by_cases hl : i < keys.length
      · have a1 : (i : Int) < (keys.length : Int) := by omega
        have a2 := hp3'.out i (Nat.le_refl _) hl
        obtain ⟨ad, hA, hc⟩ := HC.out w1 hB.out i hl
        subst hA
        have hs2 := hst'.out
        generalize keys.getD i 0 = y at *
        have a3 : ¬ y < key := by omega
        by_cases he : y = key
        · obtain rfl : t = true := hs2.2 ⟨hl, he⟩
          subst he
          have e1 : wrap64 ((i : Int) + 1) = (i : Int) + 1 := wr64 _ (by omega) (by omega)
          replace e1 := hid e1
          clear hs2 hst' hp2' hp3' a2
          cases leaf <;>
          · go_wp2_with fail
            go_ret2
            exact ⟨by first | rfl | (rw [e1.out]; rfl), hB.out⟩
        · obtain rfl : t = false := by
            cases t with
            | false => rfl
            | true => exact absurd (hs2.1 rfl).2 he
          have a4 : (y == key) = false := by simpa using he
          clear hs2 hst' hp2' hp3' a2
          cases leaf <;>
          · go_wp2_with fail
            go_ret2
            exact ⟨rfl, hB.out⟩
      · have a1 : ¬ ((i : Int) < (keys.length : Int)) := by omega
        obtain rfl : t = false := by
          cases t with
          | false => rfl
          | true => exact absurd (hst'.out.1 rfl).1 hl
        clear hst' hp2' hp3'
        cases leaf <;>
        · go_wp2_with fail
          go_ret2
          exact ⟨rfl, hB.out⟩
end Go.Proofs.Ytnghbfegijnolaa.A
