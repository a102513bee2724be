/-
  The document's Copy and Put.
-/
import Derived.Test.YtnghbfegijnolaaR2
namespace Go.Proofs.Ytnghbfegijnolaa.A
set_option linter.unusedVariables false
set_option linter.unusedSimpArgs false
open Go.RowKit Go.Proofs.YtnghbfegijnolaaW.PrintWords Go.Proofs.YtnghbfegijnolaaW.PrintLast Go.Proofs.YtnghbfegijnolaaW.PrintMore
open Go.Lib (hid)
open Go.Proofs.Ytnghbfegijnolaa.P
theorem rcopy_walk (x : Nd) (v : Value) (w : World) (H : At w v x) (k1 : x.keys.length ≤ 1099511627776) (k2 : x.vals.length ≤ 1099511627776) (k3 : x.kids.length ≤ 1099511627776) :
    Calls Try.prog 48 #[v] w fun e w' => ∃ v1 v2 v3 : Value, e = .returned (.agg #[.bool x.leaf, v1, v2, v3]) ∧ Kd.R (Kd.int .u64) 23 w' w.heap.size (fun _ => True) v1 x.keys ∧ Kd.R Kd.string 9 w' w.heap.size (fun _ => True) v2 x.vals ∧ Kd.R (Kd.int .i64) 3 w' w.heap.size (fun _ => True) v3 x.kids ∧ Below w.heap.size w w' := by
  obtain ⟨A1, c1, A2, c2, A3, c3, rfl, ⟨g1, l1⟩, ⟨g2, l2⟩, ⟨g3, l3⟩⟩ := H
  refine bailiwickref10_Copy.calls x.leaf A1 c1 x.keys A2 c2 x.vals A3 c3 x.kids x.leaf x.keys x.vals x.kids w g1 l1 g2 l2 g3 l3 ?_
  rw [bailiwickref10_Copy.f, if_pos (by simp only [List.length_nil]; omega), if_pos (by simp only [List.length_nil]; omega), if_pos (by simp only [List.length_nil]; omega), List.nil_append, List.nil_append, List.nil_append]
theorem laid_set {α : Type} (l : List α) (x : α) (i : Nat) (h : i < l.length) : laidF l [x] i 1 = l.set i x := by
  unfold laidF
  rw [List.set_eq_take_append_cons_drop, if_pos h, List.append_assoc, List.singleton_append]
theorem laid_same (l : List Int) (k : Int) (i : Nat) (h : i < l.length) (e : l.getD i 0 = k) : laidF l [k] i 1 = l := by
  rw [laid_set l k i h, ← e]
  rw [List.getD_eq_getElem?_getD, List.getElem?_eq_getElem h]
  exact List.set_getElem_self h
set_option maxHeartbeats 1000000 in
set_option maxRecDepth 100000 in
theorem rput_walk (x : Nd) (v : Value) (key : Int) (val : ByteArray) (w : World) (P : PlainNd x) (H : At w v x) (k1 : x.keys.length ≤ 1099511627776) (k2 : x.vals.length ≤ 1099511627776) (k3 : x.kids.length ≤ 1099511627776) :
    Calls Try.prog 26 #[v, .int .u64 key, .string val] w fun e w' => ∃ v', e = .returned v' ∧ At w' v' (putF x key val) ∧ Below w.heap.size w w' := by
  have P1 := hid P.leaf
  have hri := P.rise
  have HFd := hid (fun W (H : At W v x) => rfind_walk x v key W hri H k1)
  have HCp := hid (fun W (H : At W v x) => rcopy_walk x v W H k1 k2 k3)
  have HAt := hid (fun W (hb : Below w.heap.size w W) => H.below hb)
  have hpl := hid (place_spec hri key).1
  have hst := hid (fun h => isAt_get (l := x.keys) (key := key) h)
  clear P hri
  obtain ⟨A1, c1, A2, c2, A3, c3, rfl, ⟨h1, l1⟩, ⟨h2, l2⟩, ⟨h3, l3⟩⟩ := H
  obtain ⟨leaf, keys, vals, kids⟩ := x
  simp only at h1 l1 h2 l2 h3 l3 ⊢
  have hx : Hid (((w.alloc (.cells #[.bool leaf, .slice A1 keys.length c1, .slice A2 vals.length c2, .slice A3 kids.length c3] 36)).alloc (.cells #[.bool false, .slice none 0 0, .slice none 0 0, .slice none 0 0] 36)).heap[w.heap.size]? = some (.cells #[.bool leaf, .slice A1 keys.length c1, .slice A2 vals.length c2, .slice A3 kids.length c3] 36 (0, 0))) := hid (alloc2_fst w _ _)
  have hr : Hid (((w.alloc (.cells #[.bool leaf, .slice A1 keys.length c1, .slice A2 vals.length c2, .slice A3 kids.length c3] 36)).alloc (.cells #[.bool false, .slice none 0 0, .slice none 0 0, .slice none 0 0] 36)).heap[w.heap.size + 1]? = some (.cells #[.bool false, .slice none 0 0, .slice none 0 0, .slice none 0 0] 36 (0, 0))) := hid (alloc2_snd w _ _)
  have hB := hid (below_alloc (below_alloc (Below.refl w.heap.size w) (.cells #[.bool leaf, .slice A1 keys.length c1, .slice A2 vals.length c2, .slice A3 kids.length c3] 36)) (.cells #[.bool false, .slice none 0 0, .slice none 0 0, .slice none 0 0] 36))
  simp only at k1 k2 k3 P1 HFd HCp HAt hpl hst
  replace h1 := hid h1
  replace h2 := hid h2
  replace h3 := hid h3
  replace l1 := hid l1
  replace l2 := hid l2
  replace l3 := hid l3
  rw [putF]
  simp only
  by_cases hc : ¬ leaf = true
  · obtain rfl : leaf = false := by simpa using hc
    clear HFd HCp HAt
    rw [if_neg (by simp)]
    go_enter Try.func26, Try.ntmps26
    go_upto_region 1 with fail
    generalize (w.alloc (.cells #[.bool false, .slice A1 keys.length c1, .slice A2 vals.length c2, .slice A3 kids.length c3] 36)).alloc (.cells #[.bool false, .slice none 0 0, .slice none 0 0, .slice none 0 0] 36) = w1 at *
    have d0 : w1.cell? ⟨w.heap.size, 0, none⟩ = some (.bool false) := (blk_cell hx.out 0).trans rfl
    have d1 : w1.cell? ⟨w.heap.size, 1, none⟩ = some (.slice A1 keys.length c1) := (blk_cell hx.out 1).trans rfl
    have d2 : w1.cell? ⟨w.heap.size, 2, none⟩ = some (.slice A2 vals.length c2) := (blk_cell hx.out 2).trans rfl
    have d3 : w1.cell? ⟨w.heap.size, 3, none⟩ = some (.slice A3 kids.length c3) := (blk_cell hx.out 3).trans rfl
    have e0 : w1.cell? ⟨w.heap.size + 1, 0, none⟩ = some (.bool false) := (blk_cell hr.out 0).trans rfl
    have f0 := blk_frozen (w := w1) hr.out 0
    have e1 : w1.cell? ⟨w.heap.size + 1, 1, none⟩ = some (.slice none 0 0) := (blk_cell hr.out 1).trans rfl
    have f1 := blk_frozen (w := w1) hr.out 1
    have e2 : w1.cell? ⟨w.heap.size + 1, 2, none⟩ = some (.slice none 0 0) := (blk_cell hr.out 2).trans rfl
    have f2 := blk_frozen (w := w1) hr.out 2
    have e3 : w1.cell? ⟨w.heap.size + 1, 3, none⟩ = some (.slice none 0 0) := (blk_cell hr.out 3).trans rfl
    have f3 := blk_frozen (w := w1) hr.out 3
    have hZ := hid (blk_set (blk_set (blk_set (blk_set hr.out 0 (.bool false)) 1 (.slice A1 keys.length c1)) 2 (.slice A2 vals.length c2)) 3 (.slice A3 kids.length c3))
    have hb := hid (below_set (below_set (below_set (below_set hB.out (Nat.le_succ _) 0 (.bool false)) (Nat.le_succ _) 1 (.slice A1 keys.length c1)) (Nat.le_succ _) 2 (.slice A2 vals.length c2)) (Nat.le_succ _) 3 (.slice A3 kids.length c3))
    go_wp2_with fail
    refine bodyPost_ret (results_cell_row rfl _ _ (w.heap.size + 1) 36 #[.bool false, .slice A1 keys.length c1, .slice A2 vals.length c2, .slice A3 kids.length c3] (0, 0) _ rfl hZ.out Try.underlying36 rfl (by kernel_rfl)) rfl ?_
    exact ⟨_, rfl, At.mk_ (x := ⟨false, keys, vals, kids⟩) (Kd.C_below h1.out hb.out) l1.out (Kd.C_below h2.out hb.out) l2.out (Kd.C_below h3.out hb.out) l3.out, hb.out⟩
  obtain rfl : leaf = true := by simpa using hc
  clear hc
  rw [if_pos rfl]
  have hvl : vals.length = keys.length := (P1.out rfl).1
  have hkd : kids = [] := (P1.out rfl).2
  rw [show findF ⟨true, keys, vals, kids⟩ key = (((place keys key : Nat) : Int), isAt keys key) from rfl] at HFd
  simp only at HFd
  generalize place keys key = q at *
  generalize isAt keys key = t at *
  clear P1
  cases t with
  | true =>
    have hq : q < keys.length := (hst.out rfl).1
    rw [show goneF true = 1 from rfl, laid_same keys key q hq (hst.out rfl).2, laid_set vals val q (by omega)]
    have hqv : q < vals.length := by omega
    have hq2 : (q : Int) < (vals.length : Int) := by omega
    rw [← hkd]
    clear hkd
    replace hvl := hid hvl
    clear hst hpl k1 k2 k3 h1 h2 h3 l1 l2 l3
    go_enter Try.func26, Try.ntmps26
    go_upto_region 1 with fail
    generalize (w.alloc (.cells #[.bool true, .slice A1 keys.length c1, .slice A2 vals.length c2, .slice A3 kids.length c3] 36)).alloc (.cells #[.bool false, .slice none 0 0, .slice none 0 0, .slice none 0 0] 36) = w1 at *
    have d0 : w1.cell? ⟨w.heap.size, 0, none⟩ = some (.bool true) := (blk_cell hx.out 0).trans rfl
    have d1 : w1.cell? ⟨w.heap.size, 1, none⟩ = some (.slice A1 keys.length c1) := (blk_cell hx.out 1).trans rfl
    have d2 : w1.cell? ⟨w.heap.size, 2, none⟩ = some (.slice A2 vals.length c2) := (blk_cell hx.out 2).trans rfl
    have d3 : w1.cell? ⟨w.heap.size, 3, none⟩ = some (.slice A3 kids.length c3) := (blk_cell hx.out 3).trans rfl
    have e0 : w1.cell? ⟨w.heap.size + 1, 0, none⟩ = some (.bool false) := (blk_cell hr.out 0).trans rfl
    have f0 := blk_frozen (w := w1) hr.out 0
    have e1 : w1.cell? ⟨w.heap.size + 1, 1, none⟩ = some (.slice none 0 0) := (blk_cell hr.out 1).trans rfl
    have f1 := blk_frozen (w := w1) hr.out 1
    have e2 : w1.cell? ⟨w.heap.size + 1, 2, none⟩ = some (.slice none 0 0) := (blk_cell hr.out 2).trans rfl
    have f2 := blk_frozen (w := w1) hr.out 2
    have e3 : w1.cell? ⟨w.heap.size + 1, 3, none⟩ = some (.slice none 0 0) := (blk_cell hr.out 3).trans rfl
    have f3 := blk_frozen (w := w1) hr.out 3
    go_upto_region 4 with (first | ((with_reducible refine Calls.mono (HFd.out _ (HAt.out _ hB.out)) ?_); rintro r w3 ⟨rfl, hb3⟩; replace hx := hid ((hb3.block _ (blk_lt hx.out)).trans hx.out); replace hr := hid ((hb3.block _ (blk_lt hr.out)).trans hr.out); replace hB := hid (below_then hB.out hB.out.size hb3); clear hb3))
    clear d0 d1 d2 d3 e0 e1 e2 e3 f0 f1 f2 f3 HFd
    have d0 : w3.cell? ⟨w.heap.size, 0, none⟩ = some (.bool true) := (blk_cell hx.out 0).trans rfl
    have d1 : w3.cell? ⟨w.heap.size, 1, none⟩ = some (.slice A1 keys.length c1) := (blk_cell hx.out 1).trans rfl
    have d2 : w3.cell? ⟨w.heap.size, 2, none⟩ = some (.slice A2 vals.length c2) := (blk_cell hx.out 2).trans rfl
    have d3 : w3.cell? ⟨w.heap.size, 3, none⟩ = some (.slice A3 kids.length c3) := (blk_cell hx.out 3).trans rfl
    have hgo3 := hid (show w.heap.size + 1 < w3.heap.size from blk_lt hr.out)
    go_upto_region 5 with (first | ((with_reducible refine Calls.mono (HCp.out _ (HAt.out _ hB.out)) ?_); rintro r w4 ⟨v1, v2, v3, rfl, hRa, hRb, hRc, hb4⟩; (try simp only at hRa hRb hRc); obtain ⟨A5, c5, rfl⟩ := Kd.R_slice hRa; obtain ⟨A6, c6, rfl⟩ := Kd.R_slice hRb; obtain ⟨A7, c7, rfl⟩ := Kd.R_slice hRc; replace hRa := hid hRa; replace hRb := hid hRb; replace hRc := hid hRc; replace hx := hid ((hb4.block _ (blk_lt hx.out)).trans hx.out); replace hr := hid ((hb4.block _ (blk_lt hr.out)).trans hr.out); replace hB := hid (below_then hB.out hB.out.size hb4); replace hb4 := hid hb4; clear d0 d1 d2 d3))
    have hO := hid (show (w4.alloc (.cells #[.bool true, .slice A5 keys.length c5, .slice A6 vals.length c6, .slice A7 kids.length c7] 36)).heap[w4.heap.size]? = some (.cells #[.bool true, .slice A5 keys.length c5, .slice A6 vals.length c6, .slice A7 kids.length c7] 36 (0, 0)) from Array.getElem?_push_size)
    have hx2 := hid ((Below.heap_alloc w4 (.cells #[.bool true, .slice A5 keys.length c5, .slice A6 vals.length c6, .slice A7 kids.length c7] 36) w.heap.size (blk_lt hx.out)).trans hx.out)
    have hr2' := hid ((Below.heap_alloc w4 (.cells #[.bool true, .slice A5 keys.length c5, .slice A6 vals.length c6, .slice A7 kids.length c7] 36) (w.heap.size + 1) (blk_lt hr.out)).trans hr.out)
    have hB2 := hid (below_alloc hB.out (.cells #[.bool true, .slice A5 keys.length c5, .slice A6 vals.length c6, .slice A7 kids.length c7] 36))
    have hgo := hid (show w.heap.size ≤ w4.heap.size from Nat.le_of_lt (Nat.lt_of_le_of_lt (Nat.le_succ _) (blk_lt hr.out)))
    have hgo2 := hid (show w.heap.size + 1 < w4.heap.size from blk_lt hr.out)
    have hgo4 := hid (fun k (h : (Value.slice A6 vals.length c6).ownBlock = some k) => (show w.heap.size + 1 < k ∧ k < w4.heap.size from ⟨Nat.lt_of_lt_of_le hgo3.out (Kd.R_base hRb.out k h), Kd.R_lt hRb.out k h⟩))
    have hRa2 := hid (Kd.R_alloc (Kd.R_lower hRa.out (Nat.le_of_lt (Nat.lt_trans (Nat.lt_succ_self _) hgo3.out))) (.cells #[.bool true, .slice A5 keys.length c5, .slice A6 vals.length c6, .slice A7 kids.length c7] 36))
    have hRb2 := hid (Kd.R_alloc (Kd.R_lower hRb.out (Nat.le_of_lt (Nat.lt_trans (Nat.lt_succ_self _) hgo3.out))) (.cells #[.bool true, .slice A5 keys.length c5, .slice A6 vals.length c6, .slice A7 kids.length c7] 36))
    have hRc2 := hid (Kd.R_alloc (Kd.R_lower hRc.out (Nat.le_of_lt (Nat.lt_trans (Nat.lt_succ_self _) hgo3.out))) (.cells #[.bool true, .slice A5 keys.length c5, .slice A6 vals.length c6, .slice A7 kids.length c7] 36))
    clear hx hr hB hRa hRb hRc hb4 HCp HAt
    change Code.wp _ _ _ _ (w4.alloc (.cells #[.bool true, .slice A5 keys.length c5, .slice A6 vals.length c6, .slice A7 kids.length c7] 36))
    generalize w4.alloc (.cells #[.bool true, .slice A5 keys.length c5, .slice A6 vals.length c6, .slice A7 kids.length c7] 36) = w2 at *
    generalize w4.heap.size = go at *
    have hx := hx2
    have hr := hr2'
    have hB := hB2
    clear hx2 hr2' hB2
    have g0 : w2.cell? ⟨go, 0, none⟩ = some (.bool true) := (blk_cell hO.out 0).trans rfl
    have g1 : w2.cell? ⟨go, 1, none⟩ = some (.slice A5 keys.length c5) := (blk_cell hO.out 1).trans rfl
    have g2 : w2.cell? ⟨go, 2, none⟩ = some (.slice A6 vals.length c6) := (blk_cell hO.out 2).trans rfl
    have g3 : w2.cell? ⟨go, 3, none⟩ = some (.slice A7 kids.length c7) := (blk_cell hO.out 3).trans rfl
    obtain ⟨g6, cap6, e6, hg6a, hg6b, -⟩ := Kd.R_form hRb2.out (by omega)
    obtain ⟨rfl, rfl⟩ : A6 = some ⟨g6, 0, none⟩ ∧ c6 = cap6 := by injection e6 with p1 p2 p3; exact ⟨p1, p3⟩
    clear e6
    have hcell := (Kd.R_cell (⟨#[]⟩ : ByteArray) hRb2.out (q : Int) (by omega) (by omega))
    rw [Int.toNat_natCast] at hcell
    obtain ⟨hcl, hfr⟩ := hcell
    have hput := Kd.R_put hRb2.out (q : Int) val
    rw [Int.toNat_natCast] at hput
    have hg46 := hgo4.out g6 rfl
    have hRb3 := hid hput.1
    have hRa3 := hid (Kd.R_over hRa2.out hRb2.out (by decide) hput.2)
    have hx3 := hid ((Below.heap_setCell w2 ⟨g6, q, none⟩ (.string val) w.heap.size (by show w.heap.size ≠ g6; omega)).trans hx.out)
    have hr3 := hid ((Below.heap_setCell w2 ⟨g6, q, none⟩ (.string val) (w.heap.size + 1) (by show w.heap.size + 1 ≠ g6; omega)).trans hr.out)
    have hO3 := hid ((Below.heap_setCell w2 ⟨g6, q, none⟩ (.string val) go (by show go ≠ g6; omega)).trans hO.out)
    have hB3 := hid (below_set hB.out (g := g6) (by omega) q (.string val))
    have q0 : (⟨g6, 0, none⟩ : Addr).add q = ⟨g6, q, none⟩ := add_plain _ _
    have hput' := hput.2
    have hRb2' := hRb2.out
    have hRc2' := hRc2.out
    clear hput hRa2 hRb2 hRc2 hgo4 hg46 hg6a hg6b
    have hRc3 := hid (Kd.R_over hRc2' hRb2' (by decide) hput')
    clear hRc2' hRb2' hput'
    go_upto_region 7 with fail
    clear g0 g1 g2 g3 hcl hfr q0 hx hr hO hB
    generalize w2.setCell ⟨g6, q, none⟩ (.string val) = wc at *
    have hr := hr3
    have hO := hO3
    have hB := hB3
    have hR1 := hRa3
    have hR2 := hRb3
    have hR3 := hRc3
    clear hr3 hO3 hB3 hRa3 hRb3 hRc3 hx3
    generalize (some ⟨g6, 0, none⟩ : Option Addr) = A6 at *
    have g0 : wc.cell? ⟨go, 0, none⟩ = some (.bool true) := (blk_cell hO.out 0).trans rfl
    have g1 : wc.cell? ⟨go, 1, none⟩ = some (.slice A5 keys.length c5) := (blk_cell hO.out 1).trans rfl
    have g2 : wc.cell? ⟨go, 2, none⟩ = some (.slice A6 vals.length c6) := (blk_cell hO.out 2).trans rfl
    have g3 : wc.cell? ⟨go, 3, none⟩ = some (.slice A7 kids.length c7) := (blk_cell hO.out 3).trans rfl
    have e0 : wc.cell? ⟨w.heap.size + 1, 0, none⟩ = some (.bool false) := (blk_cell hr.out 0).trans rfl
    have f0 := blk_frozen (w := wc) hr.out 0
    have e1 : wc.cell? ⟨w.heap.size + 1, 1, none⟩ = some (.slice none 0 0) := (blk_cell hr.out 1).trans rfl
    have f1 := blk_frozen (w := wc) hr.out 1
    have e2 : wc.cell? ⟨w.heap.size + 1, 2, none⟩ = some (.slice none 0 0) := (blk_cell hr.out 2).trans rfl
    have f2 := blk_frozen (w := wc) hr.out 2
    have e3 : wc.cell? ⟨w.heap.size + 1, 3, none⟩ = some (.slice none 0 0) := (blk_cell hr.out 3).trans rfl
    have f3 := blk_frozen (w := wc) hr.out 3
    have hZ := hid (set4_at hr.out (.bool true) (.slice A5 keys.length c5) (.slice A6 vals.length c6) (.slice A7 kids.length c7))
    have hb := hid (set4_below hB.out (Nat.le_succ _) (.bool true) (.slice A5 keys.length c5) (.slice A6 vals.length c6) (.slice A7 kids.length c7))
    obtain ⟨-, l1', C1'⟩ := Kd.R_reads' (R_set4 hR1.out hr.out (by decide) (.bool true) (.slice A5 keys.length c5) (.slice A6 vals.length c6) (.slice A7 kids.length c7))
    replace l1' := hid l1'
    replace C1' := hid C1'
    obtain ⟨-, l2', C2'⟩ := Kd.R_reads' (R_set4 hR2.out hr.out (by decide) (.bool true) (.slice A5 keys.length c5) (.slice A6 vals.length c6) (.slice A7 kids.length c7))
    replace l2' := hid l2'
    replace C2' := hid C2'
    obtain ⟨-, l3', C3'⟩ := Kd.R_reads' (R_set4 hR3.out hr.out (by decide) (.bool true) (.slice A5 keys.length c5) (.slice A6 vals.length c6) (.slice A7 kids.length c7))
    replace l3' := hid l3'
    replace C3' := hid C3'
    go_wp2_with fail
    refine bodyPost_ret (results_cell_row rfl _ _ (w.heap.size + 1) 36 #[.bool true, .slice A5 keys.length c5, .slice A6 vals.length c6, .slice A7 kids.length c7] (0, 0) _ rfl hZ.out Try.underlying36 rfl (by kernel_rfl)) rfl ?_
    have hat := At.mk_ (x := ⟨true, keys, vals.set q val, kids⟩) C1'.out l1'.out (by have h := C2'.out; rw [List.length_set] at h ⊢; exact h) (by have h := l2'.out; rw [List.length_set]; exact h) C3'.out l3'.out
    simp only [List.length_set] at hat
    exact ⟨_, rfl, hat, hb.out⟩
  | false =>
    rw [show goneF false = 0 from rfl, show laidF keys [key] q 0 = keys.take q ++ [key] ++ keys.drop q by unfold laidF; rw [Nat.add_zero], show laidF vals [val] q 0 = vals.take q ++ [val] ++ vals.drop q by unfold laidF; rw [Nat.add_zero]]
    have hq : q ≤ keys.length := hpl.out
    have hin1 : (Try.prog.info? 23).map (fun i => i.size) = some 1 := by kernel_rfl
    obtain ⟨i1, hi1, hsz1⟩ := Option.map_eq_some_iff.1 hin1
    have hF1 := front_C 25 23 Try.underlying25 hi1 A1 keys c1 q (by omega) l1.out
    obtain ⟨Bk1, hK1, hC1⟩ := back_C (Kd.int .u64) rfl 25 23 Try.underlying25 hi1 hsz1 A1 keys c1 q (by omega) l1.out
    have HX1 := hid (fun W (hb : Below w.heap.size w W) => Kd.C_below (Kd.C_take h1.out (m := q) (by omega)) hb)
    have HY1 := hid (fun W (hb : Below w.heap.size w W) => Kd.C_below (hC1 w h1.out) hb)
    have hn1 : Hid (((keys.take q).length + 1 + (keys.drop q).length) * 8 ≤ 140737488355328) := hid (by rw [List.length_take, List.length_drop]; omega)
    clear hin1 hi1 hsz1 hC1
    generalize keys.take q = X1 at *
    generalize keys.drop q = Y1 at *
    obtain ⟨r1, hr1⟩ : ∃ r, X1 ++ [key] ++ Y1 = r := ⟨_, rfl⟩
    have hin2 : (Try.prog.info? 9).map (fun i => i.size) = some 1 := by kernel_rfl
    obtain ⟨i2, hi2, hsz2⟩ := Option.map_eq_some_iff.1 hin2
    have hF2 := front_C 26 9 Try.underlying26 hi2 A2 vals c2 q (by omega) l2.out
    obtain ⟨Bk2, hK2, hC2⟩ := back_C (Kd.string) rfl 26 9 Try.underlying26 hi2 hsz2 A2 vals c2 q (by omega) l2.out
    have HX2 := hid (fun W (hb : Below w.heap.size w W) => Kd.C_below (Kd.C_take h2.out (m := q) (by omega)) hb)
    have HY2 := hid (fun W (hb : Below w.heap.size w W) => Kd.C_below (hC2 w h2.out) hb)
    have hn2 : Hid (((vals.take q).length + 1 + (vals.drop q).length) * 16 ≤ 140737488355328) := hid (by rw [List.length_take, List.length_drop]; omega)
    clear hin2 hi2 hsz2 hC2
    generalize vals.take q = X2 at *
    generalize vals.drop q = Y2 at *
    obtain ⟨r2, hr2⟩ : ∃ r, X2 ++ [val] ++ Y2 = r := ⟨_, rfl⟩
    rw [hr1, hr2, show (⟨true, r1, r2, []⟩ : Nd) = ⟨true, r1, r2, kids⟩ by rw [hkd]]
    clear hst hpl k1 k2 k3 hkd
    replace hr1 := hid hr1
    replace hr2 := hid hr2
    replace hvl := hid hvl
    obtain ⟨r3, hr3⟩ : ∃ r, kids = r := ⟨_, rfl⟩
    have hq3 : (q : Int) ≤ (keys.length : Int) := by omega
    have hq4 : (q : Int) ≤ (vals.length : Int) := by have := hvl.out; omega
    subst hr3
    go_enter Try.func26, Try.ntmps26
    go_upto_region 1 with fail
    generalize (w.alloc (.cells #[.bool true, .slice A1 keys.length c1, .slice A2 vals.length c2, .slice A3 kids.length c3] 36)).alloc (.cells #[.bool false, .slice none 0 0, .slice none 0 0, .slice none 0 0] 36) = w1 at *
    have d0 : w1.cell? ⟨w.heap.size, 0, none⟩ = some (.bool true) := (blk_cell hx.out 0).trans rfl
    have d1 : w1.cell? ⟨w.heap.size, 1, none⟩ = some (.slice A1 keys.length c1) := (blk_cell hx.out 1).trans rfl
    have d2 : w1.cell? ⟨w.heap.size, 2, none⟩ = some (.slice A2 vals.length c2) := (blk_cell hx.out 2).trans rfl
    have d3 : w1.cell? ⟨w.heap.size, 3, none⟩ = some (.slice A3 kids.length c3) := (blk_cell hx.out 3).trans rfl
    have e0 : w1.cell? ⟨w.heap.size + 1, 0, none⟩ = some (.bool false) := (blk_cell hr.out 0).trans rfl
    have f0 := blk_frozen (w := w1) hr.out 0
    have e1 : w1.cell? ⟨w.heap.size + 1, 1, none⟩ = some (.slice none 0 0) := (blk_cell hr.out 1).trans rfl
    have f1 := blk_frozen (w := w1) hr.out 1
    have e2 : w1.cell? ⟨w.heap.size + 1, 2, none⟩ = some (.slice none 0 0) := (blk_cell hr.out 2).trans rfl
    have f2 := blk_frozen (w := w1) hr.out 2
    have e3 : w1.cell? ⟨w.heap.size + 1, 3, none⟩ = some (.slice none 0 0) := (blk_cell hr.out 3).trans rfl
    have f3 := blk_frozen (w := w1) hr.out 3
    go_upto_region 4 with (first | ((with_reducible refine Calls.mono (HFd.out _ (HAt.out _ hB.out)) ?_); rintro r w3 ⟨rfl, hb3⟩; replace hx := hid ((hb3.block _ (blk_lt hx.out)).trans hx.out); replace hr := hid ((hb3.block _ (blk_lt hr.out)).trans hr.out); replace hB := hid (below_then hB.out hB.out.size hb3); clear hb3))
    clear d0 d1 d2 d3 e0 e1 e2 e3 f0 f1 f2 f3 HFd
    have d0 : w3.cell? ⟨w.heap.size, 0, none⟩ = some (.bool true) := (blk_cell hx.out 0).trans rfl
    have d1 : w3.cell? ⟨w.heap.size, 1, none⟩ = some (.slice A1 keys.length c1) := (blk_cell hx.out 1).trans rfl
    have d2 : w3.cell? ⟨w.heap.size, 2, none⟩ = some (.slice A2 vals.length c2) := (blk_cell hx.out 2).trans rfl
    have d3 : w3.cell? ⟨w.heap.size, 3, none⟩ = some (.slice A3 kids.length c3) := (blk_cell hx.out 3).trans rfl
    have hgo3 := hid (show w.heap.size + 1 < w3.heap.size from blk_lt hr.out)
    skip
    go_upto_region 5 with (first | ((with_reducible refine Calls.mono (HCp.out _ (HAt.out _ hB.out)) ?_); rintro r w4 ⟨v1, v2, v3, rfl, hRa, hRb, hRc, hb4⟩; (try simp only at hRa hRb hRc); obtain ⟨A5, c5, rfl⟩ := Kd.R_slice hRa; obtain ⟨A6, c6, rfl⟩ := Kd.R_slice hRb; obtain ⟨A7, c7, rfl⟩ := Kd.R_slice hRc; replace hRa := hid hRa; replace hRb := hid hRb; replace hRc := hid hRc; replace hx := hid ((hb4.block _ (blk_lt hx.out)).trans hx.out); replace hr := hid ((hb4.block _ (blk_lt hr.out)).trans hr.out); replace hB := hid (below_then hB.out hB.out.size hb4); replace hb4 := hid hb4; clear d0 d1 d2 d3))
    have hO := hid (show (w4.alloc (.cells #[.bool true, .slice A5 keys.length c5, .slice A6 vals.length c6, .slice A7 kids.length c7] 36)).heap[w4.heap.size]? = some (.cells #[.bool true, .slice A5 keys.length c5, .slice A6 vals.length c6, .slice A7 kids.length c7] 36 (0, 0)) from Array.getElem?_push_size)
    have hx2 := hid ((Below.heap_alloc w4 (.cells #[.bool true, .slice A5 keys.length c5, .slice A6 vals.length c6, .slice A7 kids.length c7] 36) w.heap.size (blk_lt hx.out)).trans hx.out)
    have hr2' := hid ((Below.heap_alloc w4 (.cells #[.bool true, .slice A5 keys.length c5, .slice A6 vals.length c6, .slice A7 kids.length c7] 36) (w.heap.size + 1) (blk_lt hr.out)).trans hr.out)
    have hB2 := hid (below_alloc hB.out (.cells #[.bool true, .slice A5 keys.length c5, .slice A6 vals.length c6, .slice A7 kids.length c7] 36))
    have hgo := hid (show w.heap.size ≤ w4.heap.size from Nat.le_of_lt (Nat.lt_of_le_of_lt (Nat.le_succ _) (blk_lt hr.out)))
    have hgo2 := hid (show w.heap.size + 1 < w4.heap.size from blk_lt hr.out)
    have hgo4 := hid (fun k (h : (Value.slice A6 vals.length c6).ownBlock = some k) => (show w.heap.size + 1 < k ∧ k < w4.heap.size from ⟨Nat.lt_of_lt_of_le hgo3.out (Kd.R_base hRb.out k h), Kd.R_lt hRb.out k h⟩))
    have hRa2 := hid (Kd.R_alloc (Kd.R_lower hRa.out (Nat.le_of_lt (Nat.lt_trans (Nat.lt_succ_self _) hgo3.out))) (.cells #[.bool true, .slice A5 keys.length c5, .slice A6 vals.length c6, .slice A7 kids.length c7] 36))
    have hRb2 := hid (Kd.R_alloc (Kd.R_lower hRb.out (Nat.le_of_lt (Nat.lt_trans (Nat.lt_succ_self _) hgo3.out))) (.cells #[.bool true, .slice A5 keys.length c5, .slice A6 vals.length c6, .slice A7 kids.length c7] 36))
    have hRc2 := hid (Kd.R_alloc (Kd.R_lower hRc.out (Nat.le_of_lt (Nat.lt_trans (Nat.lt_succ_self _) hgo3.out))) (.cells #[.bool true, .slice A5 keys.length c5, .slice A6 vals.length c6, .slice A7 kids.length c7] 36))
    clear hx hr hB hRa hRb hRc hb4 HCp HAt
    change Code.wp _ _ _ _ (w4.alloc (.cells #[.bool true, .slice A5 keys.length c5, .slice A6 vals.length c6, .slice A7 kids.length c7] 36))
    generalize w4.alloc (.cells #[.bool true, .slice A5 keys.length c5, .slice A6 vals.length c6, .slice A7 kids.length c7] 36) = w2 at *
    generalize w4.heap.size = go at *
    have hx := hx2
    have hr := hr2'
    have hB := hB2
    clear hx2 hr2' hB2
    clear hgo4 hgo3
    have hR3 := hRc2
    clear hRa2 hRb2 hRc2
    go_upto_region 8 with fail
    have d0 : w2.cell? ⟨w.heap.size, 0, none⟩ = some (.bool true) := (blk_cell hx.out 0).trans rfl
    have d1 : w2.cell? ⟨w.heap.size, 1, none⟩ = some (.slice A1 keys.length c1) := (blk_cell hx.out 1).trans rfl
    have d2 : w2.cell? ⟨w.heap.size, 2, none⟩ = some (.slice A2 vals.length c2) := (blk_cell hx.out 2).trans rfl
    have d3 : w2.cell? ⟨w.heap.size, 3, none⟩ = some (.slice A3 kids.length c3) := (blk_cell hx.out 3).trans rfl
    have g0 : w2.cell? ⟨go, 0, none⟩ = some (.bool true) := (blk_cell hO.out 0).trans rfl
    have g1 : w2.cell? ⟨go, 1, none⟩ = some (.slice A5 keys.length c5) := (blk_cell hO.out 1).trans rfl
    have g2 : w2.cell? ⟨go, 2, none⟩ = some (.slice A6 vals.length c6) := (blk_cell hO.out 2).trans rfl
    have g3 : w2.cell? ⟨go, 3, none⟩ = some (.slice A7 kids.length c7) := (blk_cell hO.out 3).trans rfl
    go_upto_region 8 with fail
    go_cut [] (fun wx => ∃ (Az : Option Addr) (cz : Nat), Hid ((Kd.int .u64).R 23 wx w.heap.size (fun _ => True) (.slice Az r1.length cz) r1) ∧ Hid ((Kd.int .i64).R 3 wx w.heap.size (fun _ => True) (.slice A7 kids.length c7) kids) ∧ Hid (Below w.heap.size w wx) ∧ Hid (wx.heap[w.heap.size]? = some (.cells #[.bool true, .slice A1 keys.length c1, .slice A2 vals.length c2, .slice A3 kids.length c3] 36 (0, 0))) ∧ Hid (wx.heap[w.heap.size + 1]? = some (.cells #[.bool false, .slice none 0 0, .slice none 0 0, .slice none 0 0] 36 (0, 0))) ∧ Hid (wx.heap[go]? = some (.cells #[.bool true, .slice Az r1.length cz, .slice A6 vals.length c6, .slice A7 kids.length c7] 36 (0, 0))))
    case first =>
      refine start_ (n := 15) (S := fun w' => Below w2.heap.size w2 w') (ds := [14]) #[false, false, false, false, false, false, false, false, false, false, false, false, false, false, false] (by kernel_rfl) rfl rfl (below_drew (Below.refl _ _)) (fun hHeld => ?_)
      refine pure_ (i := 0) (N := some 29) (v := ?_) (a' := ?_) #[true, false, false, false, false, false, false, false, false, false, false, false, false, false, false] rfl rfl (by kernel_rfl) (fun _ _ _ h => h) (Or.inl ⟨by rfl, ?_⟩) ?_ ?_
      rotate_left
      · intro w'
        go_simp
        with_reducible rfl
      rotate_left
      · simp only [Act.put, List.setIfInBounds_toArray, List.set_cons_zero, List.set_cons_succ, i64_w, i32_w]
        rfl
      refine take_ (i := 1) (N := some 30) (v := ?_) (a' := ?_) #[true, true, false, false, false, false, false, false, false, false, false, false, false, false, false] rfl rfl (by kernel_rfl) (fun _ _ _ h => h) (Or.inl ⟨by rfl, ?_⟩) hHeld ?_ ?_
      rotate_left
      · rintro w' hb'
        have dd := pw_cell_below hb' d1
        go_simp
        with_reducible rfl
      rotate_left
      · simp only [Act.put, List.setIfInBounds_toArray, List.set_cons_zero, List.set_cons_succ, i64_w, i32_w]
        rfl
      refine pure_ (i := 2) (N := some 31) (v := ?_) (a' := ?_) #[true, true, true, false, false, false, false, false, false, false, false, false, false, false, false] rfl rfl (by kernel_rfl) (fun _ _ _ h => h) (Or.inl ⟨by rfl, ?_⟩) ?_ ?_
      rotate_left
      · intro w'
        go_simp
        with_reducible rfl
      rotate_left
      · simp only [Act.put, List.setIfInBounds_toArray, List.set_cons_zero, List.set_cons_succ, i64_w, i32_w]
        rfl
      refine pure_ (i := 3) (N := some 32) (v := ?_) (a' := ?_) #[true, true, true, true, false, false, false, false, false, false, false, false, false, false, false] rfl rfl (by kernel_rfl) (fun _ _ _ h => h) (Or.inl ⟨by rfl, ?_⟩) ?_ ?_
      rotate_left
      · intro w'
        go_simp
        with_reducible rfl
      rotate_left
      · simp only [Act.put, List.setIfInBounds_toArray, List.set_cons_zero, List.set_cons_succ, i64_w, i32_w]
        rfl
      refine pure_ (i := 5) (N := some 34) (v := ?_) (a' := ?_) #[true, true, true, true, false, true, false, false, false, false, false, false, false, false, false] rfl rfl (by kernel_rfl) (fun _ _ _ h => h) (Or.inl ⟨by rfl, ?_⟩) ?_ ?_
      rotate_left
      · intro w'
        go_simp
        with_reducible rfl
      rotate_left
      · simp only [Act.put, List.setIfInBounds_toArray, List.set_cons_zero, List.set_cons_succ, i64_w, i32_w]
        rfl
      refine pure_ (i := 8) (N := some 37) (v := ?_) (a' := ?_) #[true, true, true, true, false, true, false, false, true, false, false, false, false, false, false] rfl rfl (by kernel_rfl) (fun _ _ _ h => h) (Or.inl ⟨by rfl, ?_⟩) ?_ ?_
      rotate_left
      · intro w'
        go_simp
        with_reducible rfl
      rotate_left
      · simp only [Act.put, List.setIfInBounds_toArray, List.set_cons_zero, List.set_cons_succ, i64_w, i32_w]
        rfl
      refine take_ (i := 9) (N := some 38) (v := ?_) (a' := ?_) #[true, true, true, true, false, true, false, false, true, true, false, false, false, false, false] rfl rfl (by kernel_rfl) (fun _ _ _ h => h) (Or.inl ⟨by rfl, ?_⟩) hHeld ?_ ?_
      rotate_left
      · rintro w' hb'
        have dd := pw_cell_below hb' d1
        go_simp
        with_reducible rfl
      rotate_left
      · simp only [Act.put, List.setIfInBounds_toArray, List.set_cons_zero, List.set_cons_succ, i64_w, i32_w]
        rfl
      refine pure_ (i := 10) (N := some 39) (v := ?_) (a' := ?_) #[true, true, true, true, false, true, false, false, true, true, true, false, false, false, false] rfl rfl (by kernel_rfl) (fun _ _ _ h => h) (Or.inl ⟨by rfl, ?_⟩) ?_ ?_
      rotate_left
      · intro w'
        go_simp
        with_reducible rfl
      rotate_left
      · simp only [Act.put, List.setIfInBounds_toArray, List.set_cons_zero, List.set_cons_succ, i64_w, i32_w]
        rfl
      refine pure_ (i := 11) (N := some 40) (v := ?_) (a' := ?_) #[true, true, true, true, false, true, false, false, true, true, true, true, false, false, false] rfl rfl (by kernel_rfl) (fun _ _ _ h => h) (Or.inl ⟨by rfl, ?_⟩) ?_ ?_
      rotate_left
      · intro w'
        go_simp
        with_reducible rfl
      rotate_left
      · simp only [Act.put, List.setIfInBounds_toArray, List.set_cons_zero, List.set_cons_succ, i64_w, i32_w]
        rfl
      refine two_ (i := 4) (j := 6) (Ni := some 33) (Nj := some 35) #[true, true, true, true, true, true, false, false, true, true, true, true, false, false, false] #[true, true, true, true, false, true, true, false, true, true, true, true, false, false, false] rfl rfl rfl rfl (by kernel_rfl) (by decide) (by decide) (fun K hK => ?_) (fun K hK => ?_)
      · refine app_ (Value.int .u64) rfl (by rfl) _ _ 25 23 (.int .u64 0) 8 rfl Try.underlying25 (by kernel_rfl) rfl (by decide) (.slice none 0 0) [] X1 A1 _ c1 (fun k => w2.heap.size ≤ k) (by rfl) (by rfl) (fun k hk => Nat.le_trans (below_drew (Below.refl w2.heap.size w2)).size hk) (Kd.R_nil _ _ _ _ _) (HX1.out _ (below_drew hB.out)) (below_drew hB.out) (by have h := hn1.out; simp only [List.length_nil]; omega) ?_
        intro va wa hRa hba hga _
        rw [List.nil_append] at hRa
        have sa := below_then (below_drew (Below.refl w2.heap.size w2)) (below_drew (Below.refl w2.heap.size w2)).size (grown_self hga rfl)
        refine hK.out _ _ sa (fun hHeld => ?_)
        clear hK K
        refine norm_ (a' := ?_) ?_ ?_
        rotate_left
        · show Act.put _ (some 33) _ = _
          simp only [Act.put, List.setIfInBounds_toArray, List.set_cons_zero, List.set_cons_succ, i64_w, i32_w]
          rfl
        refine one_ (i := 6) (N := some 35) #[true, true, true, true, true, true, true, false, true, true, true, true, false, false, false] rfl rfl (by kernel_rfl) (by decide) (fun K hK => ?_)
        refine value_ (w1 := ?_) (v := ?_) (by rfl) rfl ?_ ?_
        rotate_left 2
        · go_simp
          constructor
          · rfl
          · rfl
        have hk1 : (wa.alloc (.cells #[.int .u64 key] 23)).heap[wa.heap.size]? = some (.cells #[.int .u64 key] 23 (0, 0)) := Array.getElem?_push_size
        have sb := below_alloc sa (.cells #[.int .u64 key] 23)
        have hbb := below_alloc hba (.cells #[.int .u64 key] 23)
        have hRb := Kd.R_alloc hRa (.cells #[.int .u64 key] 23)
        refine hK.out _ _ sb (fun hHeld => ?_)
        clear hK K
        refine norm_ (a' := ?_) ?_ ?_
        rotate_left
        · show Act.put _ (some 35) _ = _
          simp only [Act.put, List.setIfInBounds_toArray, List.set_cons_zero, List.set_cons_succ, i64_w, i32_w]
          rfl
        generalize wa.alloc (.cells #[.int .u64 key] 23) = wb at *
        refine one_ (i := 7) (N := some 36) #[true, true, true, true, true, true, true, true, true, true, true, true, false, false, false] rfl rfl (by kernel_rfl) (by decide) (fun K hK => ?_)
        refine app_ (Value.int .u64) rfl (by rfl) _ _ 25 23 (.int .u64 0) 8 rfl Try.underlying25 (by kernel_rfl) rfl (by decide) va X1 [key] (some ⟨wa.heap.size, 0, none⟩) _ 1 (fun k => w2.heap.size ≤ k) (by rfl) (by rfl) (fun k hk => Nat.le_trans sb.size hk) hRb (C_row1 hk1) hbb (by have h := hn1.out; simp only [List.length_singleton]; omega) ?_
        intro vm wm hRm hbm hgm _
        have sm := sb.grown hgm sb.size (fun k hk => hRb.1 k hk)
        refine hK.out _ _ sm (fun hHeld => ?_)
        clear hK K
        refine norm_ (a' := ?_) ?_ ?_
        rotate_left
        · show Act.put _ (some 36) _ = _
          simp only [Act.put, List.setIfInBounds_toArray, List.set_cons_zero, List.set_cons_succ, i64_w, i32_w]
          rfl
        refine one_ (i := 12) (N := some 41) #[true, true, true, true, true, true, true, true, true, true, true, true, true, false, false] rfl rfl (by kernel_rfl) (by decide) (fun K hK => ?_)
        refine app_ (Value.int .u64) rfl (by rfl) _ _ 25 23 (.int .u64 0) 8 rfl Try.underlying25 (by kernel_rfl) rfl (by decide) vm (X1 ++ [key]) Y1 Bk1 _ (c1 - q) (fun k => w2.heap.size ≤ k) (by rfl) (by rfl) (fun k hk => Nat.le_trans sm.size hk) hRm (HY1.out _ hbm) hbm (by have h := hn1.out; (try simp only [List.length_append, List.length_singleton]); omega) ?_
        intro vz wz hRz hbz hgz _
        rw [hr1.out] at hRz
        have sz := sm.grown hgz sm.size (fun k hk => hRm.1 k hk)
        refine hK.out _ _ sz (fun hHeld => ?_)
        clear hK K
        refine norm_ (a' := ?_) ?_ ?_
        rotate_left
        · show Act.put _ (some 41) _ = _
          simp only [Act.put, List.setIfInBounds_toArray, List.set_cons_zero, List.set_cons_succ, i64_w, i32_w]
          rfl
        obtain ⟨Az, cz, rfl⟩ := Kd.R_slice hRz
        have hoz := (sz.block _ (blk_lt hO.out)).trans hO.out
        have y0 := (blk_cell hoz 1).trans rfl
        have z0 := blk_frozen hoz 1
        refine pure_ (i := 13) (N := some 42) (v := ?_) (a' := ?_) #[true, true, true, true, true, true, true, true, true, true, true, true, true, true, false] rfl rfl (by kernel_rfl) (fun _ _ _ h => h) (Or.inl ⟨by rfl, ?_⟩) ?_ ?_
        rotate_left
        · intro w'
          go_simp
          with_reducible rfl
        rotate_left
        · simp only [Act.put, List.setIfInBounds_toArray, List.set_cons_zero, List.set_cons_succ, i64_w, i32_w]
          rfl
        refine last_ (i := 14) (N := none) #[true, true, true, true, true, true, true, true, true, true, true, true, true, true, true] rfl rfl (by kernel_rfl) (by decide) (fun K hK => ?_)
        refine skip_ (w1 := ?_) (by rfl) rfl ?_ ?_
        rotate_left
        · go_simp
          with_reducible rfl
        refine hK.out _ _ ?_
        clear hK K
        refine done_ (by kernel_rfl) ?_
        have hRf := hid (Kd.R_set (Kd.R_mono hRz (fun _ _ => trivial) : (Kd.int .u64).R 23 _ _ (fun _ => True) _ _) hoz (by decide) 1 (.slice Az r1.length cz))
        have hbf := hid (below_set hbz hgo.out 1 (.slice Az r1.length cz))
        have hof := hid (blk_set hoz 1 (.slice Az r1.length cz))
        have hxf := hid ((Below.heap_setCell wz ⟨go, 1, none⟩ (.slice Az r1.length cz) w.heap.size (by show w.heap.size ≠ go; have := hgo2.out; omega)).trans ((sz.block _ (blk_lt hx.out)).trans hx.out))
        have hrf := hid ((Below.heap_setCell wz ⟨go, 1, none⟩ (.slice Az r1.length cz) (w.heap.size + 1) (by show w.heap.size + 1 ≠ go; have := hgo2.out; omega)).trans ((sz.block _ (blk_lt hr.out)).trans hr.out))
        have hRp3 := hid (Kd.R_set (Kd.R_below hR3.out sz) hoz (by decide) 1 (.slice Az r1.length cz))
        go_wp2_with fail
        go_meet
        exact ⟨Az, cz, hRf, hRp3, hbf, hxf, hrf, hof⟩
      · refine value_ (w1 := ?_) (v := ?_) (by rfl) rfl ?_ ?_
        rotate_left 2
        · go_simp
          constructor
          · rfl
          · rfl
        have hk1 : ((w2.alloc (.cells #[.int .u64 key] 23)).drew).heap[w2.heap.size]? = some (.cells #[.int .u64 key] 23 (0, 0)) := Array.getElem?_push_size
        have sb := below_drew (below_alloc (Below.refl w2.heap.size w2) (.cells #[.int .u64 key] 23))
        have hbb := below_drew (below_alloc hB.out (.cells #[.int .u64 key] 23))
        refine hK.out _ _ sb (fun hHeld => ?_)
        clear hK K
        refine norm_ (a' := ?_) ?_ ?_
        rotate_left
        · show Act.put _ (some 35) _ = _
          simp only [Act.put, List.setIfInBounds_toArray, List.set_cons_zero, List.set_cons_succ, i64_w, i32_w]
          rfl
        generalize (w2.alloc (.cells #[.int .u64 key] 23)).drew = wb at *
        refine one_ (i := 4) (N := some 33) #[true, true, true, true, true, true, true, false, true, true, true, true, false, false, false] rfl rfl (by kernel_rfl) (by decide) (fun K hK => ?_)
        refine app_ (Value.int .u64) rfl (by rfl) _ _ 25 23 (.int .u64 0) 8 rfl Try.underlying25 (by kernel_rfl) rfl (by decide) (.slice none 0 0) [] X1 A1 _ c1 (fun k => w2.heap.size ≤ k) (by rfl) (by rfl) (fun k hk => Nat.le_trans sb.size hk) (Kd.R_nil _ _ _ _ _) (HX1.out _ hbb) hbb (by have h := hn1.out; simp only [List.length_nil]; omega) ?_
        intro va wa hRa hba hga _
        rw [List.nil_append] at hRa
        have sa := below_then sb sb.size (grown_self hga rfl)
        refine hK.out _ _ sa (fun hHeld => ?_)
        clear hK K
        refine norm_ (a' := ?_) ?_ ?_
        rotate_left
        · show Act.put _ (some 33) _ = _
          simp only [Act.put, List.setIfInBounds_toArray, List.set_cons_zero, List.set_cons_succ, i64_w, i32_w]
          rfl
        replace hk1 := ((grown_self hga rfl).block _ (blk_lt hk1)).trans hk1
        refine one_ (i := 7) (N := some 36) #[true, true, true, true, true, true, true, true, true, true, true, true, false, false, false] rfl rfl (by kernel_rfl) (by decide) (fun K hK => ?_)
        refine app_ (Value.int .u64) rfl (by rfl) _ _ 25 23 (.int .u64 0) 8 rfl Try.underlying25 (by kernel_rfl) rfl (by decide) va X1 [key] (some ⟨w2.heap.size, 0, none⟩) _ 1 (fun k => w2.heap.size ≤ k) (by rfl) (by rfl) (fun k hk => Nat.le_trans sa.size hk) hRa (C_row1 hk1) hba (by have h := hn1.out; simp only [List.length_singleton]; omega) ?_
        intro vm wm hRm hbm hgm _
        have sm := sa.grown hgm sa.size (fun k hk => hRa.1 k hk)
        refine hK.out _ _ sm (fun hHeld => ?_)
        clear hK K
        refine norm_ (a' := ?_) ?_ ?_
        rotate_left
        · show Act.put _ (some 36) _ = _
          simp only [Act.put, List.setIfInBounds_toArray, List.set_cons_zero, List.set_cons_succ, i64_w, i32_w]
          rfl
        refine one_ (i := 12) (N := some 41) #[true, true, true, true, true, true, true, true, true, true, true, true, true, false, false] rfl rfl (by kernel_rfl) (by decide) (fun K hK => ?_)
        refine app_ (Value.int .u64) rfl (by rfl) _ _ 25 23 (.int .u64 0) 8 rfl Try.underlying25 (by kernel_rfl) rfl (by decide) vm (X1 ++ [key]) Y1 Bk1 _ (c1 - q) (fun k => w2.heap.size ≤ k) (by rfl) (by rfl) (fun k hk => Nat.le_trans sm.size hk) hRm (HY1.out _ hbm) hbm (by have h := hn1.out; (try simp only [List.length_append, List.length_singleton]); omega) ?_
        intro vz wz hRz hbz hgz _
        rw [hr1.out] at hRz
        have sz := sm.grown hgz sm.size (fun k hk => hRm.1 k hk)
        refine hK.out _ _ sz (fun hHeld => ?_)
        clear hK K
        refine norm_ (a' := ?_) ?_ ?_
        rotate_left
        · show Act.put _ (some 41) _ = _
          simp only [Act.put, List.setIfInBounds_toArray, List.set_cons_zero, List.set_cons_succ, i64_w, i32_w]
          rfl
        obtain ⟨Az, cz, rfl⟩ := Kd.R_slice hRz
        have hoz := (sz.block _ (blk_lt hO.out)).trans hO.out
        have y0 := (blk_cell hoz 1).trans rfl
        have z0 := blk_frozen hoz 1
        refine pure_ (i := 13) (N := some 42) (v := ?_) (a' := ?_) #[true, true, true, true, true, true, true, true, true, true, true, true, true, true, false] rfl rfl (by kernel_rfl) (fun _ _ _ h => h) (Or.inl ⟨by rfl, ?_⟩) ?_ ?_
        rotate_left
        · intro w'
          go_simp
          with_reducible rfl
        rotate_left
        · simp only [Act.put, List.setIfInBounds_toArray, List.set_cons_zero, List.set_cons_succ, i64_w, i32_w]
          rfl
        refine last_ (i := 14) (N := none) #[true, true, true, true, true, true, true, true, true, true, true, true, true, true, true] rfl rfl (by kernel_rfl) (by decide) (fun K hK => ?_)
        refine skip_ (w1 := ?_) (by rfl) rfl ?_ ?_
        rotate_left
        · go_simp
          with_reducible rfl
        refine hK.out _ _ ?_
        clear hK K
        refine done_ (by kernel_rfl) ?_
        have hRf := hid (Kd.R_set (Kd.R_mono hRz (fun _ _ => trivial) : (Kd.int .u64).R 23 _ _ (fun _ => True) _ _) hoz (by decide) 1 (.slice Az r1.length cz))
        have hbf := hid (below_set hbz hgo.out 1 (.slice Az r1.length cz))
        have hof := hid (blk_set hoz 1 (.slice Az r1.length cz))
        have hxf := hid ((Below.heap_setCell wz ⟨go, 1, none⟩ (.slice Az r1.length cz) w.heap.size (by show w.heap.size ≠ go; have := hgo2.out; omega)).trans ((sz.block _ (blk_lt hx.out)).trans hx.out))
        have hrf := hid ((Below.heap_setCell wz ⟨go, 1, none⟩ (.slice Az r1.length cz) (w.heap.size + 1) (by show w.heap.size + 1 ≠ go; have := hgo2.out; omega)).trans ((sz.block _ (blk_lt hr.out)).trans hr.out))
        have hRp3 := hid (Kd.R_set (Kd.R_below hR3.out sz) hoz (by decide) 1 (.slice Az r1.length cz))
        go_wp2_with fail
        go_meet
        exact ⟨Az, cz, hRf, hRp3, hbf, hxf, hrf, hof⟩
    case rest =>
      obtain ⟨w3, hw3⟩ : ∃ w3, w3 = wc := ⟨_, rfl⟩
      subst hw3
      clear hx hr hO hB hR3 d0 d1 d2 d3 g0 g1 g2 g3
      obtain ⟨A5, c5, hR1, hR3, hB, hx, hr, hO⟩ := hcut
      have d0 : w3.cell? ⟨w.heap.size, 0, none⟩ = some (.bool true) := (blk_cell hx.out 0).trans rfl
      have d1 : w3.cell? ⟨w.heap.size, 1, none⟩ = some (.slice A1 keys.length c1) := (blk_cell hx.out 1).trans rfl
      have d2 : w3.cell? ⟨w.heap.size, 2, none⟩ = some (.slice A2 vals.length c2) := (blk_cell hx.out 2).trans rfl
      have d3 : w3.cell? ⟨w.heap.size, 3, none⟩ = some (.slice A3 kids.length c3) := (blk_cell hx.out 3).trans rfl
      have g0 : w3.cell? ⟨go, 0, none⟩ = some (.bool true) := (blk_cell hO.out 0).trans rfl
      have g1 : w3.cell? ⟨go, 1, none⟩ = some (.slice A5 r1.length c5) := (blk_cell hO.out 1).trans rfl
      have g2 : w3.cell? ⟨go, 2, none⟩ = some (.slice A6 vals.length c6) := (blk_cell hO.out 2).trans rfl
      have g3 : w3.cell? ⟨go, 3, none⟩ = some (.slice A7 kids.length c7) := (blk_cell hO.out 3).trans rfl
      go_upto_region 9 with fail
      skip
      go_cut [] (fun wy => ∃ (Az : Option Addr) (cz : Nat), Hid ((Kd.string).R 9 wy w.heap.size (fun _ => True) (.slice Az r2.length cz) r2) ∧ Hid ((Kd.int .i64).R 3 wy w.heap.size (fun _ => True) (.slice A7 kids.length c7) kids) ∧ Hid ((Kd.int .u64).R 23 wy w.heap.size (fun _ => True) (.slice A5 r1.length c5) r1) ∧ Hid (Below w.heap.size w wy) ∧ Hid (wy.heap[w.heap.size]? = some (.cells #[.bool true, .slice A1 keys.length c1, .slice A2 vals.length c2, .slice A3 kids.length c3] 36 (0, 0))) ∧ Hid (wy.heap[w.heap.size + 1]? = some (.cells #[.bool false, .slice none 0 0, .slice none 0 0, .slice none 0 0] 36 (0, 0))) ∧ Hid (wy.heap[go]? = some (.cells #[.bool true, .slice A5 r1.length c5, .slice Az r2.length cz, .slice A7 kids.length c7] 36 (0, 0))))
      case first =>
        refine start_ (n := 15) (S := fun w' => Below w3.heap.size w3 w') (ds := [14]) #[false, false, false, false, false, false, false, false, false, false, false, false, false, false, false] (by kernel_rfl) rfl rfl (below_drew (Below.refl _ _)) (fun hHeld => ?_)
        refine pure_ (i := 0) (N := some 43) (v := ?_) (a' := ?_) #[true, false, false, false, false, false, false, false, false, false, false, false, false, false, false] rfl rfl (by kernel_rfl) (fun _ _ _ h => h) (Or.inl ⟨by rfl, ?_⟩) ?_ ?_
        rotate_left
        · intro w'
          go_simp
          with_reducible rfl
        rotate_left
        · simp only [Act.put, List.setIfInBounds_toArray, List.set_cons_zero, List.set_cons_succ, i64_w, i32_w]
          rfl
        refine take_ (i := 1) (N := some 44) (v := ?_) (a' := ?_) #[true, true, false, false, false, false, false, false, false, false, false, false, false, false, false] rfl rfl (by kernel_rfl) (fun _ _ _ h => h) (Or.inl ⟨by rfl, ?_⟩) hHeld ?_ ?_
        rotate_left
        · rintro w' hb'
          have dd := pw_cell_below hb' d2
          go_simp
          with_reducible rfl
        rotate_left
        · simp only [Act.put, List.setIfInBounds_toArray, List.set_cons_zero, List.set_cons_succ, i64_w, i32_w]
          rfl
        refine pure_ (i := 2) (N := some 45) (v := ?_) (a' := ?_) #[true, true, true, false, false, false, false, false, false, false, false, false, false, false, false] rfl rfl (by kernel_rfl) (fun _ _ _ h => h) (Or.inl ⟨by rfl, ?_⟩) ?_ ?_
        rotate_left
        · intro w'
          go_simp
          with_reducible rfl
        rotate_left
        · simp only [Act.put, List.setIfInBounds_toArray, List.set_cons_zero, List.set_cons_succ, i64_w, i32_w]
          rfl
        refine pure_ (i := 3) (N := some 46) (v := ?_) (a' := ?_) #[true, true, true, true, false, false, false, false, false, false, false, false, false, false, false] rfl rfl (by kernel_rfl) (fun _ _ _ h => h) (Or.inl ⟨by rfl, ?_⟩) ?_ ?_
        rotate_left
        · intro w'
          go_simp
          with_reducible rfl
        rotate_left
        · simp only [Act.put, List.setIfInBounds_toArray, List.set_cons_zero, List.set_cons_succ, i64_w, i32_w]
          rfl
        refine pure_ (i := 5) (N := some 48) (v := ?_) (a' := ?_) #[true, true, true, true, false, true, false, false, false, false, false, false, false, false, false] rfl rfl (by kernel_rfl) (fun _ _ _ h => h) (Or.inl ⟨by rfl, ?_⟩) ?_ ?_
        rotate_left
        · intro w'
          go_simp
          with_reducible rfl
        rotate_left
        · simp only [Act.put, List.setIfInBounds_toArray, List.set_cons_zero, List.set_cons_succ, i64_w, i32_w]
          rfl
        refine pure_ (i := 8) (N := some 51) (v := ?_) (a' := ?_) #[true, true, true, true, false, true, false, false, true, false, false, false, false, false, false] rfl rfl (by kernel_rfl) (fun _ _ _ h => h) (Or.inl ⟨by rfl, ?_⟩) ?_ ?_
        rotate_left
        · intro w'
          go_simp
          with_reducible rfl
        rotate_left
        · simp only [Act.put, List.setIfInBounds_toArray, List.set_cons_zero, List.set_cons_succ, i64_w, i32_w]
          rfl
        refine take_ (i := 9) (N := some 52) (v := ?_) (a' := ?_) #[true, true, true, true, false, true, false, false, true, true, false, false, false, false, false] rfl rfl (by kernel_rfl) (fun _ _ _ h => h) (Or.inl ⟨by rfl, ?_⟩) hHeld ?_ ?_
        rotate_left
        · rintro w' hb'
          have dd := pw_cell_below hb' d2
          go_simp
          with_reducible rfl
        rotate_left
        · simp only [Act.put, List.setIfInBounds_toArray, List.set_cons_zero, List.set_cons_succ, i64_w, i32_w]
          rfl
        refine pure_ (i := 10) (N := some 53) (v := ?_) (a' := ?_) #[true, true, true, true, false, true, false, false, true, true, true, false, false, false, false] rfl rfl (by kernel_rfl) (fun _ _ _ h => h) (Or.inl ⟨by rfl, ?_⟩) ?_ ?_
        rotate_left
        · intro w'
          go_simp
          with_reducible rfl
        rotate_left
        · simp only [Act.put, List.setIfInBounds_toArray, List.set_cons_zero, List.set_cons_succ, i64_w, i32_w]
          rfl
        refine pure_ (i := 11) (N := some 54) (v := ?_) (a' := ?_) #[true, true, true, true, false, true, false, false, true, true, true, true, false, false, false] rfl rfl (by kernel_rfl) (fun _ _ _ h => h) (Or.inl ⟨by rfl, ?_⟩) ?_ ?_
        rotate_left
        · intro w'
          go_simp
          with_reducible rfl
        rotate_left
        · simp only [Act.put, List.setIfInBounds_toArray, List.set_cons_zero, List.set_cons_succ, i64_w, i32_w]
          rfl
        refine two_ (i := 4) (j := 6) (Ni := some 47) (Nj := some 49) #[true, true, true, true, true, true, false, false, true, true, true, true, false, false, false] #[true, true, true, true, false, true, true, false, true, true, true, true, false, false, false] rfl rfl rfl rfl (by kernel_rfl) (by decide) (by decide) (fun K hK => ?_) (fun K hK => ?_)
        · refine app_ (Value.string) rfl (by rfl) _ _ 26 9 (.string ⟨#[]⟩) 16 rfl Try.underlying26 (by kernel_rfl) rfl (by decide) (.slice none 0 0) [] X2 A2 _ c2 (fun k => w3.heap.size ≤ k) (by rfl) (by rfl) (fun k hk => Nat.le_trans (below_drew (Below.refl w3.heap.size w3)).size hk) (Kd.R_nil _ _ _ _ _) (HX2.out _ (below_drew hB.out)) (below_drew hB.out) (by have h := hn2.out; simp only [List.length_nil]; omega) ?_
          intro va wa hRa hba hga _
          rw [List.nil_append] at hRa
          have sa := below_then (below_drew (Below.refl w3.heap.size w3)) (below_drew (Below.refl w3.heap.size w3)).size (grown_self hga rfl)
          refine hK.out _ _ sa (fun hHeld => ?_)
          clear hK K
          refine norm_ (a' := ?_) ?_ ?_
          rotate_left
          · show Act.put _ (some 47) _ = _
            simp only [Act.put, List.setIfInBounds_toArray, List.set_cons_zero, List.set_cons_succ, i64_w, i32_w]
            rfl
          refine one_ (i := 6) (N := some 49) #[true, true, true, true, true, true, true, false, true, true, true, true, false, false, false] rfl rfl (by kernel_rfl) (by decide) (fun K hK => ?_)
          refine value_ (w1 := ?_) (v := ?_) (by rfl) rfl ?_ ?_
          rotate_left 2
          · go_simp
            constructor
            · rfl
            · rfl
          have hk2 : (wa.alloc (.cells #[.string val] 9)).heap[wa.heap.size]? = some (.cells #[.string val] 9 (0, 0)) := Array.getElem?_push_size
          have sb := below_alloc sa (.cells #[.string val] 9)
          have hbb := below_alloc hba (.cells #[.string val] 9)
          have hRb := Kd.R_alloc hRa (.cells #[.string val] 9)
          refine hK.out _ _ sb (fun hHeld => ?_)
          clear hK K
          refine norm_ (a' := ?_) ?_ ?_
          rotate_left
          · show Act.put _ (some 49) _ = _
            simp only [Act.put, List.setIfInBounds_toArray, List.set_cons_zero, List.set_cons_succ, i64_w, i32_w]
            rfl
          generalize wa.alloc (.cells #[.string val] 9) = wb at *
          refine one_ (i := 7) (N := some 50) #[true, true, true, true, true, true, true, true, true, true, true, true, false, false, false] rfl rfl (by kernel_rfl) (by decide) (fun K hK => ?_)
          refine app_ (Value.string) rfl (by rfl) _ _ 26 9 (.string ⟨#[]⟩) 16 rfl Try.underlying26 (by kernel_rfl) rfl (by decide) va X2 [val] (some ⟨wa.heap.size, 0, none⟩) _ 1 (fun k => w3.heap.size ≤ k) (by rfl) (by rfl) (fun k hk => Nat.le_trans sb.size hk) hRb (C_row1 hk2) hbb (by have h := hn2.out; simp only [List.length_singleton]; omega) ?_
          intro vm wm hRm hbm hgm _
          have sm := sb.grown hgm sb.size (fun k hk => hRb.1 k hk)
          refine hK.out _ _ sm (fun hHeld => ?_)
          clear hK K
          refine norm_ (a' := ?_) ?_ ?_
          rotate_left
          · show Act.put _ (some 50) _ = _
            simp only [Act.put, List.setIfInBounds_toArray, List.set_cons_zero, List.set_cons_succ, i64_w, i32_w]
            rfl
          refine one_ (i := 12) (N := some 55) #[true, true, true, true, true, true, true, true, true, true, true, true, true, false, false] rfl rfl (by kernel_rfl) (by decide) (fun K hK => ?_)
          refine app_ (Value.string) rfl (by rfl) _ _ 26 9 (.string ⟨#[]⟩) 16 rfl Try.underlying26 (by kernel_rfl) rfl (by decide) vm (X2 ++ [val]) Y2 Bk2 _ (c2 - q) (fun k => w3.heap.size ≤ k) (by rfl) (by rfl) (fun k hk => Nat.le_trans sm.size hk) hRm (HY2.out _ hbm) hbm (by have h := hn2.out; (try simp only [List.length_append, List.length_singleton]); omega) ?_
          intro vz wz hRz hbz hgz _
          rw [hr2.out] at hRz
          have sz := sm.grown hgz sm.size (fun k hk => hRm.1 k hk)
          refine hK.out _ _ sz (fun hHeld => ?_)
          clear hK K
          refine norm_ (a' := ?_) ?_ ?_
          rotate_left
          · show Act.put _ (some 55) _ = _
            simp only [Act.put, List.setIfInBounds_toArray, List.set_cons_zero, List.set_cons_succ, i64_w, i32_w]
            rfl
          obtain ⟨Az, cz, rfl⟩ := Kd.R_slice hRz
          have hoz := (sz.block _ (blk_lt hO.out)).trans hO.out
          have y0 := (blk_cell hoz 2).trans rfl
          have z0 := blk_frozen hoz 2
          refine pure_ (i := 13) (N := some 56) (v := ?_) (a' := ?_) #[true, true, true, true, true, true, true, true, true, true, true, true, true, true, false] rfl rfl (by kernel_rfl) (fun _ _ _ h => h) (Or.inl ⟨by rfl, ?_⟩) ?_ ?_
          rotate_left
          · intro w'
            go_simp
            with_reducible rfl
          rotate_left
          · simp only [Act.put, List.setIfInBounds_toArray, List.set_cons_zero, List.set_cons_succ, i64_w, i32_w]
            rfl
          refine last_ (i := 14) (N := none) #[true, true, true, true, true, true, true, true, true, true, true, true, true, true, true] rfl rfl (by kernel_rfl) (by decide) (fun K hK => ?_)
          refine skip_ (w1 := ?_) (by rfl) rfl ?_ ?_
          rotate_left
          · go_simp
            with_reducible rfl
          refine hK.out _ _ ?_
          clear hK K
          refine done_ (by kernel_rfl) ?_
          have hRf := hid (Kd.R_set (Kd.R_mono hRz (fun _ _ => trivial) : (Kd.string).R 9 _ _ (fun _ => True) _ _) hoz (by decide) 2 (.slice Az r2.length cz))
          have hbf := hid (below_set hbz hgo.out 2 (.slice Az r2.length cz))
          have hof := hid (blk_set hoz 2 (.slice Az r2.length cz))
          have hxf := hid ((Below.heap_setCell wz ⟨go, 2, none⟩ (.slice Az r2.length cz) w.heap.size (by show w.heap.size ≠ go; have := hgo2.out; omega)).trans ((sz.block _ (blk_lt hx.out)).trans hx.out))
          have hrf := hid ((Below.heap_setCell wz ⟨go, 2, none⟩ (.slice Az r2.length cz) (w.heap.size + 1) (by show w.heap.size + 1 ≠ go; have := hgo2.out; omega)).trans ((sz.block _ (blk_lt hr.out)).trans hr.out))
          have hRp3 := hid (Kd.R_set (Kd.R_below hR3.out sz) hoz (by decide) 2 (.slice Az r2.length cz))
          have hRp1 := hid (Kd.R_set (Kd.R_below hR1.out sz) hoz (by decide) 2 (.slice Az r2.length cz))
          go_wp2_with fail
          go_meet
          exact ⟨Az, cz, hRf, hRp3, hRp1, hbf, hxf, hrf, hof⟩
        · refine value_ (w1 := ?_) (v := ?_) (by rfl) rfl ?_ ?_
          rotate_left 2
          · go_simp
            constructor
            · rfl
            · rfl
          have hk2 : ((w3.alloc (.cells #[.string val] 9)).drew).heap[w3.heap.size]? = some (.cells #[.string val] 9 (0, 0)) := Array.getElem?_push_size
          have sb := below_drew (below_alloc (Below.refl w3.heap.size w3) (.cells #[.string val] 9))
          have hbb := below_drew (below_alloc hB.out (.cells #[.string val] 9))
          refine hK.out _ _ sb (fun hHeld => ?_)
          clear hK K
          refine norm_ (a' := ?_) ?_ ?_
          rotate_left
          · show Act.put _ (some 49) _ = _
            simp only [Act.put, List.setIfInBounds_toArray, List.set_cons_zero, List.set_cons_succ, i64_w, i32_w]
            rfl
          generalize (w3.alloc (.cells #[.string val] 9)).drew = wb at *
          refine one_ (i := 4) (N := some 47) #[true, true, true, true, true, true, true, false, true, true, true, true, false, false, false] rfl rfl (by kernel_rfl) (by decide) (fun K hK => ?_)
          refine app_ (Value.string) rfl (by rfl) _ _ 26 9 (.string ⟨#[]⟩) 16 rfl Try.underlying26 (by kernel_rfl) rfl (by decide) (.slice none 0 0) [] X2 A2 _ c2 (fun k => w3.heap.size ≤ k) (by rfl) (by rfl) (fun k hk => Nat.le_trans sb.size hk) (Kd.R_nil _ _ _ _ _) (HX2.out _ hbb) hbb (by have h := hn2.out; simp only [List.length_nil]; omega) ?_
          intro va wa hRa hba hga _
          rw [List.nil_append] at hRa
          have sa := below_then sb sb.size (grown_self hga rfl)
          refine hK.out _ _ sa (fun hHeld => ?_)
          clear hK K
          refine norm_ (a' := ?_) ?_ ?_
          rotate_left
          · show Act.put _ (some 47) _ = _
            simp only [Act.put, List.setIfInBounds_toArray, List.set_cons_zero, List.set_cons_succ, i64_w, i32_w]
            rfl
          replace hk2 := ((grown_self hga rfl).block _ (blk_lt hk2)).trans hk2
          refine one_ (i := 7) (N := some 50) #[true, true, true, true, true, true, true, true, true, true, true, true, false, false, false] rfl rfl (by kernel_rfl) (by decide) (fun K hK => ?_)
          refine app_ (Value.string) rfl (by rfl) _ _ 26 9 (.string ⟨#[]⟩) 16 rfl Try.underlying26 (by kernel_rfl) rfl (by decide) va X2 [val] (some ⟨w3.heap.size, 0, none⟩) _ 1 (fun k => w3.heap.size ≤ k) (by rfl) (by rfl) (fun k hk => Nat.le_trans sa.size hk) hRa (C_row1 hk2) hba (by have h := hn2.out; simp only [List.length_singleton]; omega) ?_
          intro vm wm hRm hbm hgm _
          have sm := sa.grown hgm sa.size (fun k hk => hRa.1 k hk)
          refine hK.out _ _ sm (fun hHeld => ?_)
          clear hK K
          refine norm_ (a' := ?_) ?_ ?_
          rotate_left
          · show Act.put _ (some 50) _ = _
            simp only [Act.put, List.setIfInBounds_toArray, List.set_cons_zero, List.set_cons_succ, i64_w, i32_w]
            rfl
          refine one_ (i := 12) (N := some 55) #[true, true, true, true, true, true, true, true, true, true, true, true, true, false, false] rfl rfl (by kernel_rfl) (by decide) (fun K hK => ?_)
          refine app_ (Value.string) rfl (by rfl) _ _ 26 9 (.string ⟨#[]⟩) 16 rfl Try.underlying26 (by kernel_rfl) rfl (by decide) vm (X2 ++ [val]) Y2 Bk2 _ (c2 - q) (fun k => w3.heap.size ≤ k) (by rfl) (by rfl) (fun k hk => Nat.le_trans sm.size hk) hRm (HY2.out _ hbm) hbm (by have h := hn2.out; (try simp only [List.length_append, List.length_singleton]); omega) ?_
          intro vz wz hRz hbz hgz _
          rw [hr2.out] at hRz
          have sz := sm.grown hgz sm.size (fun k hk => hRm.1 k hk)
          refine hK.out _ _ sz (fun hHeld => ?_)
          clear hK K
          refine norm_ (a' := ?_) ?_ ?_
          rotate_left
          · show Act.put _ (some 55) _ = _
            simp only [Act.put, List.setIfInBounds_toArray, List.set_cons_zero, List.set_cons_succ, i64_w, i32_w]
            rfl
          obtain ⟨Az, cz, rfl⟩ := Kd.R_slice hRz
          have hoz := (sz.block _ (blk_lt hO.out)).trans hO.out
          have y0 := (blk_cell hoz 2).trans rfl
          have z0 := blk_frozen hoz 2
          refine pure_ (i := 13) (N := some 56) (v := ?_) (a' := ?_) #[true, true, true, true, true, true, true, true, true, true, true, true, true, true, false] rfl rfl (by kernel_rfl) (fun _ _ _ h => h) (Or.inl ⟨by rfl, ?_⟩) ?_ ?_
          rotate_left
          · intro w'
            go_simp
            with_reducible rfl
          rotate_left
          · simp only [Act.put, List.setIfInBounds_toArray, List.set_cons_zero, List.set_cons_succ, i64_w, i32_w]
            rfl
          refine last_ (i := 14) (N := none) #[true, true, true, true, true, true, true, true, true, true, true, true, true, true, true] rfl rfl (by kernel_rfl) (by decide) (fun K hK => ?_)
          refine skip_ (w1 := ?_) (by rfl) rfl ?_ ?_
          rotate_left
          · go_simp
            with_reducible rfl
          refine hK.out _ _ ?_
          clear hK K
          refine done_ (by kernel_rfl) ?_
          have hRf := hid (Kd.R_set (Kd.R_mono hRz (fun _ _ => trivial) : (Kd.string).R 9 _ _ (fun _ => True) _ _) hoz (by decide) 2 (.slice Az r2.length cz))
          have hbf := hid (below_set hbz hgo.out 2 (.slice Az r2.length cz))
          have hof := hid (blk_set hoz 2 (.slice Az r2.length cz))
          have hxf := hid ((Below.heap_setCell wz ⟨go, 2, none⟩ (.slice Az r2.length cz) w.heap.size (by show w.heap.size ≠ go; have := hgo2.out; omega)).trans ((sz.block _ (blk_lt hx.out)).trans hx.out))
          have hrf := hid ((Below.heap_setCell wz ⟨go, 2, none⟩ (.slice Az r2.length cz) (w.heap.size + 1) (by show w.heap.size + 1 ≠ go; have := hgo2.out; omega)).trans ((sz.block _ (blk_lt hr.out)).trans hr.out))
          have hRp3 := hid (Kd.R_set (Kd.R_below hR3.out sz) hoz (by decide) 2 (.slice Az r2.length cz))
          have hRp1 := hid (Kd.R_set (Kd.R_below hR1.out sz) hoz (by decide) 2 (.slice Az r2.length cz))
          go_wp2_with fail
          go_meet
          exact ⟨Az, cz, hRf, hRp3, hRp1, hbf, hxf, hrf, hof⟩
      case rest =>
        clear hx hr hO hB hR3 hR1 d0 d1 d2 d3 g0 g1 g2 g3
        obtain ⟨A6, c6, hR2, hR3, hR1, hB, hx, hr, hO⟩ := hcut
        have g0 : wc.cell? ⟨go, 0, none⟩ = some (.bool true) := (blk_cell hO.out 0).trans rfl
        have g1 : wc.cell? ⟨go, 1, none⟩ = some (.slice A5 r1.length c5) := (blk_cell hO.out 1).trans rfl
        have g2 : wc.cell? ⟨go, 2, none⟩ = some (.slice A6 r2.length c6) := (blk_cell hO.out 2).trans rfl
        have g3 : wc.cell? ⟨go, 3, none⟩ = some (.slice A7 kids.length c7) := (blk_cell hO.out 3).trans rfl
        have e0 : wc.cell? ⟨w.heap.size + 1, 0, none⟩ = some (.bool false) := (blk_cell hr.out 0).trans rfl
        have f0 := blk_frozen (w := wc) hr.out 0
        have e1 : wc.cell? ⟨w.heap.size + 1, 1, none⟩ = some (.slice none 0 0) := (blk_cell hr.out 1).trans rfl
        have f1 := blk_frozen (w := wc) hr.out 1
        have e2 : wc.cell? ⟨w.heap.size + 1, 2, none⟩ = some (.slice none 0 0) := (blk_cell hr.out 2).trans rfl
        have f2 := blk_frozen (w := wc) hr.out 2
        have e3 : wc.cell? ⟨w.heap.size + 1, 3, none⟩ = some (.slice none 0 0) := (blk_cell hr.out 3).trans rfl
        have f3 := blk_frozen (w := wc) hr.out 3
        have hZ := hid (set4_at hr.out (.bool true) (.slice A5 r1.length c5) (.slice A6 r2.length c6) (.slice A7 kids.length c7))
        have hb := hid (set4_below hB.out (Nat.le_succ _) (.bool true) (.slice A5 r1.length c5) (.slice A6 r2.length c6) (.slice A7 kids.length c7))
        obtain ⟨-, l1', C1'⟩ := Kd.R_reads' (R_set4 hR1.out hr.out (by decide) (.bool true) (.slice A5 r1.length c5) (.slice A6 r2.length c6) (.slice A7 kids.length c7))
        replace l1' := hid l1'
        replace C1' := hid C1'
        obtain ⟨-, l2', C2'⟩ := Kd.R_reads' (R_set4 hR2.out hr.out (by decide) (.bool true) (.slice A5 r1.length c5) (.slice A6 r2.length c6) (.slice A7 kids.length c7))
        replace l2' := hid l2'
        replace C2' := hid C2'
        obtain ⟨-, l3', C3'⟩ := Kd.R_reads' (R_set4 hR3.out hr.out (by decide) (.bool true) (.slice A5 r1.length c5) (.slice A6 r2.length c6) (.slice A7 kids.length c7))
        replace l3' := hid l3'
        replace C3' := hid C3'
        go_wp2_with fail
        refine bodyPost_ret (results_cell_row rfl _ _ (w.heap.size + 1) 36 #[.bool true, .slice A5 r1.length c5, .slice A6 r2.length c6, .slice A7 kids.length c7] (0, 0) _ rfl hZ.out Try.underlying36 rfl (by kernel_rfl)) rfl ?_
        exact ⟨_, rfl, At.mk_ (x := ⟨true, r1, r2, kids⟩) C1'.out l1'.out C2'.out l2'.out C3'.out l3'.out, hb.out⟩
end Go.Proofs.Ytnghbfegijnolaa.A
