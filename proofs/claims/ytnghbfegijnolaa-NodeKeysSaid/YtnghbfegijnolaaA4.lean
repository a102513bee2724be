/-
  Without, Unhang.
-/
import Derived.Test.YtnghbfegijnolaaA3
namespace Go.Proofs.Ytnghbfegijnolaa.A
set_option linter.unusedVariables false
set_option linter.unusedSimpArgs false
open Go.RowKit Go.Proofs.YtnghbfegijnolaaW.PrintWords Go.Proofs.YtnghbfegijnolaaW.PrintLast Go.Proofs.YtnghbfegijnolaaW.PrintMore
open Go.Lib (hid)
theorem C_far1 {α : Type} {enc : α → Value} {h1 : ∀ x, (enc x).oneCell' = true} {w : World} {A : Option Addr} {n : Nat} {xs : List α} (h : (Kd.scalar enc h1).C w A n xs) {g : Nat} (hf : ∀ ad, A = some ad → ad.block ≠ g) (i : Nat) (u : Value) : (Kd.scalar enc h1).C (w.setCell ⟨g, i, none⟩ u) A n xs := by
  refine ⟨h.1, h.2.1, fun hn => ?_⟩
  obtain ⟨ad, e, hc⟩ := h.2.2 hn
  refine ⟨ad, e, fun j p hj => ?_⟩
  obtain ⟨c, hs, hr, hcell⟩ := hc j p hj
  refine ⟨c, hs, hr, fun k x hx => ?_⟩
  have hb : (ad.add (j * (Kd.scalar enc h1).sz + k)).block = ad.block := by unfold Addr.add; split <;> rfl
  have he := Below.heap_setCell w ⟨g, i, none⟩ u (ad.add (j * (Kd.scalar enc h1).sz + k)).block (by rw [hb]; exact hf ad e)
  have := hcell k x hx
  simpa [World.cell?, he] using this
def laidF {α : Type} (l more : List α) (a g : Nat) : List α := l.take a ++ more ++ l.drop (a + g)
def withoutF (x : Nd) (i : Int) : Nd := if x.leaf = true ∧ 0 ≤ i ∧ i < x.keys.length then ⟨true, laidF x.keys [] i.toNat 1, laidF x.vals [] i.toNat 1, []⟩ else x
def unhangF (x : Nd) (i : Int) : Nd := if x.leaf = false ∧ 0 ≤ i ∧ i < x.keys.length then ⟨false, laidF x.keys [] i.toNat 1, [], laidF x.kids [] (i.toNat + 1) 1⟩ else x
set_option maxHeartbeats 1000000 in
set_option maxRecDepth 100000 in
theorem without_walk (x : Nd) (v : Value) (i : Int) (w : World) (H : At w v x) (hk : x.keys.length ≤ 1099511627776) (hv : x.vals.length ≤ 1099511627776) (hi : x.kids.length ≤ 1099511627776) :
    Calls Try.prog 21 #[v, .int .i64 i] w fun e w' => ∃ v', e = .returned v' ∧ At w' v' (withoutF x i) ∧ Below w.heap.size w w' := by
  obtain ⟨A1, c1, A2, c2, A3, c3, rfl, ⟨h1, l1⟩, ⟨h2, l2⟩, ⟨h3, l3⟩⟩ := H
  obtain ⟨leaf, keys, vals, kids⟩ := x
  simp only at h1 l1 h2 l2 h3 l3 ⊢
  have hx : Hid (((w.alloc (.cells #[.bool leaf, .slice A1 keys.length c1, .slice A2 vals.length c2, .slice A3 kids.length c3] 29)).alloc (.cells #[.bool false, .slice none 0 0, .slice none 0 0, .slice none 0 0] 29)).heap[w.heap.size]? = some (.cells #[.bool leaf, .slice A1 keys.length c1, .slice A2 vals.length c2, .slice A3 kids.length c3] 29 (0, 0))) := hid (alloc2_fst w _ _)
  have hr : Hid (((w.alloc (.cells #[.bool leaf, .slice A1 keys.length c1, .slice A2 vals.length c2, .slice A3 kids.length c3] 29)).alloc (.cells #[.bool false, .slice none 0 0, .slice none 0 0, .slice none 0 0] 29)).heap[w.heap.size + 1]? = some (.cells #[.bool false, .slice none 0 0, .slice none 0 0, .slice none 0 0] 29 (0, 0))) := hid (alloc2_snd w _ _)
  have hB := hid (below_alloc (below_alloc (Below.refl w.heap.size w) (.cells #[.bool leaf, .slice A1 keys.length c1, .slice A2 vals.length c2, .slice A3 kids.length c3] 29)) (.cells #[.bool false, .slice none 0 0, .slice none 0 0, .slice none 0 0] 29))
  simp only at hk hv hi
  replace h1 := hid h1
  replace h2 := hid h2
  replace h3 := hid h3
  replace l1 := hid l1
  replace l2 := hid l2
  replace l3 := hid l3
  rw [withoutF]
  simp only
  by_cases hc : ¬ leaf = true
  · obtain rfl : leaf = false := by simpa using hc
    rw [if_neg (by simp)]
    go_enter Try.func21, Try.ntmps21
    go_upto_region 1 with fail
    generalize (w.alloc (.cells #[.bool false, .slice A1 keys.length c1, .slice A2 vals.length c2, .slice A3 kids.length c3] 29)).alloc (.cells #[.bool false, .slice none 0 0, .slice none 0 0, .slice none 0 0] 29) = w1 at *
    have d0 : w1.cell? ⟨w.heap.size, 0, none⟩ = some (.bool false) := (blk_cell hx.out 0).trans rfl
    have d1 : w1.cell? ⟨w.heap.size, 1, none⟩ = some (.slice A1 keys.length c1) := (blk_cell hx.out 1).trans rfl
    have d2 : w1.cell? ⟨w.heap.size, 2, none⟩ = some (.slice A2 vals.length c2) := (blk_cell hx.out 2).trans rfl
    have d3 : w1.cell? ⟨w.heap.size, 3, none⟩ = some (.slice A3 kids.length c3) := (blk_cell hx.out 3).trans rfl
    have e0 : w1.cell? ⟨w.heap.size + 1, 0, none⟩ = some (.bool false) := (blk_cell hr.out 0).trans rfl
    have f0 := blk_frozen (w := w1) hr.out 0
    have e1 : w1.cell? ⟨w.heap.size + 1, 1, none⟩ = some (.slice none 0 0) := (blk_cell hr.out 1).trans rfl
    have f1 := blk_frozen (w := w1) hr.out 1
    have e2 : w1.cell? ⟨w.heap.size + 1, 2, none⟩ = some (.slice none 0 0) := (blk_cell hr.out 2).trans rfl
    have f2 := blk_frozen (w := w1) hr.out 2
    have e3 : w1.cell? ⟨w.heap.size + 1, 3, none⟩ = some (.slice none 0 0) := (blk_cell hr.out 3).trans rfl
    have f3 := blk_frozen (w := w1) hr.out 3
    have hZ := hid (blk_set (blk_set (blk_set (blk_set hr.out 0 (.bool false)) 1 (.slice A1 keys.length c1)) 2 (.slice A2 vals.length c2)) 3 (.slice A3 kids.length c3))
    have hb := hid (below_set (below_set (below_set (below_set hB.out (Nat.le_succ _) 0 (.bool false)) (Nat.le_succ _) 1 (.slice A1 keys.length c1)) (Nat.le_succ _) 2 (.slice A2 vals.length c2)) (Nat.le_succ _) 3 (.slice A3 kids.length c3))
    go_wp2_with fail
    refine bodyPost_ret (results_cell_row rfl _ _ (w.heap.size + 1) 29 #[.bool false, .slice A1 keys.length c1, .slice A2 vals.length c2, .slice A3 kids.length c3] (0, 0) _ rfl hZ.out Try.underlying29 rfl (by kernel_rfl)) rfl ?_
    exact ⟨_, rfl, At.mk_ (x := ⟨false, keys, vals, kids⟩) (Kd.C_below h1.out hb.out) l1.out (Kd.C_below h2.out hb.out) l2.out (Kd.C_below h3.out hb.out) l3.out, hb.out⟩
  obtain rfl : leaf = true := by simpa using hc
  clear hc
  by_cases g1 : ¬ (0 ≤ i ∧ i < (keys.length : Int))
  · rw [if_neg (by simpa using g1)]
    have g2 : i < 0 ∨ (¬ i < 0 ∧ (keys.length : Int) ≤ i) := by omega
    clear hk hv hi g1
    rcases g2 with g2 | ⟨g2, g3⟩
    · go_enter Try.func21, Try.ntmps21
      go_upto_region 1 with fail
      generalize (w.alloc (.cells #[.bool true, .slice A1 keys.length c1, .slice A2 vals.length c2, .slice A3 kids.length c3] 29)).alloc (.cells #[.bool false, .slice none 0 0, .slice none 0 0, .slice none 0 0] 29) = w1 at *
      have d0 : w1.cell? ⟨w.heap.size, 0, none⟩ = some (.bool true) := (blk_cell hx.out 0).trans rfl
      have d1 : w1.cell? ⟨w.heap.size, 1, none⟩ = some (.slice A1 keys.length c1) := (blk_cell hx.out 1).trans rfl
      have d2 : w1.cell? ⟨w.heap.size, 2, none⟩ = some (.slice A2 vals.length c2) := (blk_cell hx.out 2).trans rfl
      have d3 : w1.cell? ⟨w.heap.size, 3, none⟩ = some (.slice A3 kids.length c3) := (blk_cell hx.out 3).trans rfl
      have e0 : w1.cell? ⟨w.heap.size + 1, 0, none⟩ = some (.bool false) := (blk_cell hr.out 0).trans rfl
      have f0 := blk_frozen (w := w1) hr.out 0
      have e1 : w1.cell? ⟨w.heap.size + 1, 1, none⟩ = some (.slice none 0 0) := (blk_cell hr.out 1).trans rfl
      have f1 := blk_frozen (w := w1) hr.out 1
      have e2 : w1.cell? ⟨w.heap.size + 1, 2, none⟩ = some (.slice none 0 0) := (blk_cell hr.out 2).trans rfl
      have f2 := blk_frozen (w := w1) hr.out 2
      have e3 : w1.cell? ⟨w.heap.size + 1, 3, none⟩ = some (.slice none 0 0) := (blk_cell hr.out 3).trans rfl
      have f3 := blk_frozen (w := w1) hr.out 3
      have hZ := hid (blk_set (blk_set (blk_set (blk_set hr.out 0 (.bool true)) 1 (.slice A1 keys.length c1)) 2 (.slice A2 vals.length c2)) 3 (.slice A3 kids.length c3))
      have hb := hid (below_set (below_set (below_set (below_set hB.out (Nat.le_succ _) 0 (.bool true)) (Nat.le_succ _) 1 (.slice A1 keys.length c1)) (Nat.le_succ _) 2 (.slice A2 vals.length c2)) (Nat.le_succ _) 3 (.slice A3 kids.length c3))
      go_wp2_with fail
      refine bodyPost_ret (results_cell_row rfl _ _ (w.heap.size + 1) 29 #[.bool true, .slice A1 keys.length c1, .slice A2 vals.length c2, .slice A3 kids.length c3] (0, 0) _ rfl hZ.out Try.underlying29 rfl (by kernel_rfl)) rfl ?_
      exact ⟨_, rfl, At.mk_ (x := ⟨true, keys, vals, kids⟩) (Kd.C_below h1.out hb.out) l1.out (Kd.C_below h2.out hb.out) l2.out (Kd.C_below h3.out hb.out) l3.out, hb.out⟩
    · go_enter Try.func21, Try.ntmps21
      go_upto_region 1 with fail
      generalize (w.alloc (.cells #[.bool true, .slice A1 keys.length c1, .slice A2 vals.length c2, .slice A3 kids.length c3] 29)).alloc (.cells #[.bool false, .slice none 0 0, .slice none 0 0, .slice none 0 0] 29) = w1 at *
      have d0 : w1.cell? ⟨w.heap.size, 0, none⟩ = some (.bool true) := (blk_cell hx.out 0).trans rfl
      have d1 : w1.cell? ⟨w.heap.size, 1, none⟩ = some (.slice A1 keys.length c1) := (blk_cell hx.out 1).trans rfl
      have d2 : w1.cell? ⟨w.heap.size, 2, none⟩ = some (.slice A2 vals.length c2) := (blk_cell hx.out 2).trans rfl
      have d3 : w1.cell? ⟨w.heap.size, 3, none⟩ = some (.slice A3 kids.length c3) := (blk_cell hx.out 3).trans rfl
      have e0 : w1.cell? ⟨w.heap.size + 1, 0, none⟩ = some (.bool false) := (blk_cell hr.out 0).trans rfl
      have f0 := blk_frozen (w := w1) hr.out 0
      have e1 : w1.cell? ⟨w.heap.size + 1, 1, none⟩ = some (.slice none 0 0) := (blk_cell hr.out 1).trans rfl
      have f1 := blk_frozen (w := w1) hr.out 1
      have e2 : w1.cell? ⟨w.heap.size + 1, 2, none⟩ = some (.slice none 0 0) := (blk_cell hr.out 2).trans rfl
      have f2 := blk_frozen (w := w1) hr.out 2
      have e3 : w1.cell? ⟨w.heap.size + 1, 3, none⟩ = some (.slice none 0 0) := (blk_cell hr.out 3).trans rfl
      have f3 := blk_frozen (w := w1) hr.out 3
      have hZ := hid (blk_set (blk_set (blk_set (blk_set hr.out 0 (.bool true)) 1 (.slice A1 keys.length c1)) 2 (.slice A2 vals.length c2)) 3 (.slice A3 kids.length c3))
      have hb := hid (below_set (below_set (below_set (below_set hB.out (Nat.le_succ _) 0 (.bool true)) (Nat.le_succ _) 1 (.slice A1 keys.length c1)) (Nat.le_succ _) 2 (.slice A2 vals.length c2)) (Nat.le_succ _) 3 (.slice A3 kids.length c3))
      go_wp2_with fail
      refine bodyPost_ret (results_cell_row rfl _ _ (w.heap.size + 1) 29 #[.bool true, .slice A1 keys.length c1, .slice A2 vals.length c2, .slice A3 kids.length c3] (0, 0) _ rfl hZ.out Try.underlying29 rfl (by kernel_rfl)) rfl ?_
      exact ⟨_, rfl, At.mk_ (x := ⟨true, keys, vals, kids⟩) (Kd.C_below h1.out hb.out) l1.out (Kd.C_below h2.out hb.out) l2.out (Kd.C_below h3.out hb.out) l3.out, hb.out⟩
  · replace g1 := Classical.not_not.1 g1
    rw [if_pos ⟨rfl, g1⟩]
    obtain ⟨k, rfl⟩ := Int.eq_ofNat_of_zero_le g1.1
    rw [Int.toNat_natCast]
    have g2 : ¬ ((k : Int) < 0) := by omega
    have g3 : ¬ ((keys.length : Int) ≤ k) := by omega
    have gk : k ≤ 1099511627776 := by omega
    have HK := hid (fun W (hb : Below w.heap.size w W) => laidK keys [] k 1 A1 none c1 0 W (Kd.C_below h1.out hb) l1.out (Kd.C_nil _ W) gk (by omega) hk (by simp))
    have H2 := hid (fun W (hb : Below w.heap.size w W) => laidS vals [] k 1 A2 none c2 0 W (Kd.C_below h2.out hb) l2.out (Kd.C_nil _ W) (by omega) (by omega) hv (by simp))
    rw [show laidF keys [] k 1 = keys.take k ++ [] ++ keys.drop (k + 1) from rfl, show laidF vals [] k 1 = vals.take k ++ [] ++ vals.drop (k + 1) from rfl]
    generalize keys.take k ++ [] ++ keys.drop (k + 1) = r1 at HK ⊢
    generalize vals.take k ++ [] ++ vals.drop (k + 1) = r2 at H2 ⊢
    clear hk hv hi g1 gk
    go_enter Try.func21, Try.ntmps21
    go_upto_region 1 with fail
    generalize (w.alloc (.cells #[.bool true, .slice A1 keys.length c1, .slice A2 vals.length c2, .slice A3 kids.length c3] 29)).alloc (.cells #[.bool false, .slice none 0 0, .slice none 0 0, .slice none 0 0] 29) = w1 at *
    have d0 : w1.cell? ⟨w.heap.size, 0, none⟩ = some (.bool true) := (blk_cell hx.out 0).trans rfl
    have d1 : w1.cell? ⟨w.heap.size, 1, none⟩ = some (.slice A1 keys.length c1) := (blk_cell hx.out 1).trans rfl
    have d2 : w1.cell? ⟨w.heap.size, 2, none⟩ = some (.slice A2 vals.length c2) := (blk_cell hx.out 2).trans rfl
    have d3 : w1.cell? ⟨w.heap.size, 3, none⟩ = some (.slice A3 kids.length c3) := (blk_cell hx.out 3).trans rfl
    have e0 : w1.cell? ⟨w.heap.size + 1, 0, none⟩ = some (.bool false) := (blk_cell hr.out 0).trans rfl
    have f0 := blk_frozen (w := w1) hr.out 0
    have e1 : w1.cell? ⟨w.heap.size + 1, 1, none⟩ = some (.slice none 0 0) := (blk_cell hr.out 1).trans rfl
    have f1 := blk_frozen (w := w1) hr.out 1
    have e2 : w1.cell? ⟨w.heap.size + 1, 2, none⟩ = some (.slice none 0 0) := (blk_cell hr.out 2).trans rfl
    have f2 := blk_frozen (w := w1) hr.out 2
    have e3 : w1.cell? ⟨w.heap.size + 1, 3, none⟩ = some (.slice none 0 0) := (blk_cell hr.out 3).trans rfl
    have f3 := blk_frozen (w := w1) hr.out 3
    go_upto_region 3 with fail
    refine start_ (n := 10) (S := fun w' => Below w1.heap.size w1 w') (ds := [9]) #[false, false, false, false, false, false, false, false, false, false] (by kernel_rfl) rfl rfl (below_drew (Below.refl _ _)) (fun hHeld => ?_)
    refine pure_ (i := 0) (N := some 20) (v := ?_) (a' := ?_) #[true, false, false, false, false, false, false, false, false, false] rfl rfl (by kernel_rfl) (fun _ _ _ h => h) (Or.inl ⟨by rfl, ?_⟩) ?_ ?_
    rotate_left
    · intro w'
      go_simp
      with_reducible rfl
    rotate_left
    · simp only [Act.put, List.setIfInBounds_toArray, List.set_cons_zero, List.set_cons_succ, i64_w, i32_w]
      rfl
    refine take_ (i := 1) (N := some 21) (v := ?_) (a' := ?_) #[true, true, false, false, false, false, false, false, false, false] rfl rfl (by kernel_rfl) (fun _ _ _ h => h) (Or.inl ⟨by rfl, ?_⟩) hHeld ?_ ?_
    rotate_left
    · rintro w' hb'
      have dd := pw_cell_below hb' d1
      go_simp
      with_reducible rfl
    rotate_left
    · simp only [Act.put, List.setIfInBounds_toArray, List.set_cons_zero, List.set_cons_succ, i64_w, i32_w]
      rfl
    refine pure_ (i := 2) (N := some 22) (v := ?_) (a' := ?_) #[true, true, true, false, false, false, false, false, false, false] rfl rfl (by kernel_rfl) (fun _ _ _ h => h) (Or.inl ⟨by rfl, ?_⟩) ?_ ?_
    rotate_left
    · intro w'
      go_simp
      with_reducible rfl
    rotate_left
    · simp only [Act.put, List.setIfInBounds_toArray, List.set_cons_zero, List.set_cons_succ, i64_w, i32_w]
      rfl
    refine pure_ (i := 4) (N := some 24) (v := ?_) (a' := ?_) #[true, true, true, false, true, false, false, false, false, false] rfl rfl (by kernel_rfl) (fun _ _ _ h => h) (Or.inl ⟨by rfl, ?_⟩) ?_ ?_
    rotate_left
    · intro w'
      go_simp
      with_reducible rfl
    rotate_left
    · simp only [Act.put, List.setIfInBounds_toArray, List.set_cons_zero, List.set_cons_succ, i64_w, i32_w]
      rfl
    refine take_ (i := 5) (N := some 25) (v := ?_) (a' := ?_) #[true, true, true, false, true, true, false, false, false, false] rfl rfl (by kernel_rfl) (fun _ _ _ h => h) (Or.inl ⟨by rfl, ?_⟩) hHeld ?_ ?_
    rotate_left
    · rintro w' hb'
      have dd := pw_cell_below hb' d2
      go_simp
      with_reducible rfl
    rotate_left
    · simp only [Act.put, List.setIfInBounds_toArray, List.set_cons_zero, List.set_cons_succ, i64_w, i32_w]
      rfl
    refine pure_ (i := 6) (N := some 26) (v := ?_) (a' := ?_) #[true, true, true, false, true, true, true, false, false, false] rfl rfl (by kernel_rfl) (fun _ _ _ h => h) (Or.inl ⟨by rfl, ?_⟩) ?_ ?_
    rotate_left
    · intro w'
      go_simp
      with_reducible rfl
    rotate_left
    · simp only [Act.put, List.setIfInBounds_toArray, List.set_cons_zero, List.set_cons_succ, i64_w, i32_w]
      rfl
    refine one_ (i := 3) (N := some 23) #[true, true, true, true, true, true, true, false, false, false] rfl rfl (by kernel_rfl) (by decide) (fun K hK => ?_)
    refine goes_ Try.func35 (by kernel_rfl) rfl #[.slice A1 keys.length c1, .int .i64 (k : Int), .int .i64 1, .slice none 0 0] (by rfl) rfl rfl (by (try simp only [List.map_toArray, List.map_cons, List.map_nil]); first | done | rfl) ?_
    refine (HK.out _ (below_drew hB.out)).mono ?_
    rintro r w5 ⟨A5, c5, rfl, q1, q2, q3, q4⟩
    replace q1 := hid q1
    replace q2 := hid q2
    have q5 := hid (fun ad (e : A5 = some ad) => (show ad.block ≠ w.heap.size + 1 from by have h1 := q4 ad e; have h2 : w.heap.size + 1 < w1.heap.size := blk_lt hr.out; have h3 : w1.heap.size ≤ w1.drew.heap.size := Nat.le_refl _; omega))
    have s3 := below_then (below_drew (Below.refl _ _)) (Nat.le_refl _) q3
    have t3 := hid (below_then (below_drew hB.out) (below_drew hB.out).size q3)
    refine ⟨_, rfl, ?_⟩
    refine hK.out _ _ s3 (fun hHeld => ?_)
    clear hK K
    refine norm_ (a' := ?_) ?_ ?_
    rotate_left
    · show Act.put _ (some 23) _ = _
      simp only [Act.put, List.setIfInBounds_toArray, List.set_cons_zero, List.set_cons_succ, i64_w, i32_w]
      rfl
    refine one_ (i := 7) (N := some 27) #[true, true, true, true, true, true, true, true, false, false] rfl rfl (by kernel_rfl) (by decide) (fun K hK => ?_)
    refine goes_ Try.func47 (by kernel_rfl) rfl #[.slice A2 vals.length c2, .int .i64 (k : Int), .int .i64 1, .slice none 0 0] (by rfl) rfl rfl (by (try simp only [List.map_toArray, List.map_cons, List.map_nil]); first | done | rfl) ?_
    skip
    refine (H2.out _ t3.out).mono ?_
    rintro r w6 ⟨A6, c6, rfl, p1, p2, p3, p4⟩
    replace p1 := hid p1
    replace p2 := hid p2
    have p5 := hid (fun ad (e : A6 = some ad) => (show ad.block ≠ w.heap.size + 1 from by have h1 := p4 ad e; have h2 : w.heap.size + 1 < w5.heap.size := blk_lt ((s3.block _ (blk_lt hr.out)).trans hr.out); omega))
    have s4 := below_then s3 s3.size p3
    replace q2 := hid (Kd.C_below q2.out p3)
    have hbx := hid (below_then t3.out t3.out.size p3)
    replace hr := hid ((s4.block _ (blk_lt hr.out)).trans hr.out)
    refine ⟨_, rfl, ?_⟩
    refine hK.out _ _ s4 (fun hHeld => ?_)
    clear hK K
    refine norm_ (a' := ?_) ?_ ?_
    rotate_left
    · show Act.put _ (some 27) _ = _
      simp only [Act.put, List.setIfInBounds_toArray, List.set_cons_zero, List.set_cons_succ, i64_w, i32_w]
      rfl
    refine pure_ (i := 8) (N := some 28) (v := ?_) (a' := ?_) #[true, true, true, true, true, true, true, true, true, false] rfl rfl (by kernel_rfl) (fun _ _ _ h => h) (Or.inl ⟨by rfl, ?_⟩) ?_ ?_
    rotate_left
    · intro w'
      go_simp
      with_reducible rfl
    rotate_left
    · simp only [Act.put, List.setIfInBounds_toArray, List.set_cons_zero, List.set_cons_succ, i64_w, i32_w]
      rfl
    have y0 : w6.cell? ⟨w.heap.size + 1, 0, none⟩ = some (.bool false) := (blk_cell hr.out 0).trans rfl
    have z0 := blk_frozen (w := w6) hr.out 0
    have y1 : w6.cell? ⟨w.heap.size + 1, 1, none⟩ = some (.slice none 0 0) := (blk_cell hr.out 1).trans rfl
    have z1 := blk_frozen (w := w6) hr.out 1
    have y2 : w6.cell? ⟨w.heap.size + 1, 2, none⟩ = some (.slice none 0 0) := (blk_cell hr.out 2).trans rfl
    have z2 := blk_frozen (w := w6) hr.out 2
    have y3 : w6.cell? ⟨w.heap.size + 1, 3, none⟩ = some (.slice none 0 0) := (blk_cell hr.out 3).trans rfl
    have z3 := blk_frozen (w := w6) hr.out 3
    refine last_ (i := 9) (N := none) #[true, true, true, true, true, true, true, true, true, true] rfl rfl (by kernel_rfl) (by decide) (fun K hK => ?_)
    refine skip_ (w1 := ?_) (by rfl) rfl ?_ ?_
    rotate_left
    · go_simp
      with_reducible rfl
    refine hK.out _ _ ?_
    clear hK K
    refine done_ (by kernel_rfl) ?_
    have hZ := hid (blk_set (blk_set (blk_set (blk_set hr.out 0 (.bool true)) 1 (.slice A5 r1.length c5)) 2 (.slice A6 r2.length c6)) 3 (.slice none 0 0))
    have hb := hid (below_set (below_set (below_set (below_set hbx.out (Nat.le_succ _) 0 (.bool true)) (Nat.le_succ _) 1 (.slice A5 r1.length c5)) (Nat.le_succ _) 2 (.slice A6 r2.length c6)) (Nat.le_succ _) 3 (.slice none 0 0))
    go_wp2_with fail
    refine bodyPost_ret (results_cell_row rfl _ _ (w.heap.size + 1) 29 #[.bool true, .slice A5 r1.length c5, .slice A6 r2.length c6, .slice none 0 0] (0, 0) _ rfl hZ.out Try.underlying29 rfl (by kernel_rfl)) rfl ?_
    have hq := hid (C_far1 (C_far1 (C_far1 (C_far1 q2.out q5.out 0 (.bool true)) q5.out 1 (.slice A5 r1.length c5)) q5.out 2 (.slice A6 r2.length c6)) q5.out 3 (.slice none 0 0))
    have hp := hid (C_far1 (C_far1 (C_far1 (C_far1 p2.out p5.out 0 (.bool true)) p5.out 1 (.slice A5 r1.length c5)) p5.out 2 (.slice A6 r2.length c6)) p5.out 3 (.slice none 0 0))
    exact ⟨_, rfl, At.mk_ (x := ⟨true, r1, r2, []⟩) hq.out q1.out hp.out p1.out (Kd.C_nil _ _) (Nat.le_refl _), hb.out⟩
set_option maxHeartbeats 1000000 in
set_option maxRecDepth 100000 in
theorem unhang_walk (x : Nd) (v : Value) (i : Int) (w : World) (H : At w v x) (hk : x.keys.length ≤ 1099511627776) (hv : x.vals.length ≤ 1099511627776) (hi : x.kids.length ≤ 1099511627776) :
    Calls Try.prog 15 #[v, .int .i64 i] w fun e w' => ∃ v', e = .returned v' ∧ At w' v' (unhangF x i) ∧ Below w.heap.size w w' := by
  obtain ⟨A1, c1, A2, c2, A3, c3, rfl, ⟨h1, l1⟩, ⟨h2, l2⟩, ⟨h3, l3⟩⟩ := H
  obtain ⟨leaf, keys, vals, kids⟩ := x
  simp only at h1 l1 h2 l2 h3 l3 ⊢
  have hx : Hid (((w.alloc (.cells #[.bool leaf, .slice A1 keys.length c1, .slice A2 vals.length c2, .slice A3 kids.length c3] 29)).alloc (.cells #[.bool false, .slice none 0 0, .slice none 0 0, .slice none 0 0] 29)).heap[w.heap.size]? = some (.cells #[.bool leaf, .slice A1 keys.length c1, .slice A2 vals.length c2, .slice A3 kids.length c3] 29 (0, 0))) := hid (alloc2_fst w _ _)
  have hr : Hid (((w.alloc (.cells #[.bool leaf, .slice A1 keys.length c1, .slice A2 vals.length c2, .slice A3 kids.length c3] 29)).alloc (.cells #[.bool false, .slice none 0 0, .slice none 0 0, .slice none 0 0] 29)).heap[w.heap.size + 1]? = some (.cells #[.bool false, .slice none 0 0, .slice none 0 0, .slice none 0 0] 29 (0, 0))) := hid (alloc2_snd w _ _)
  have hB := hid (below_alloc (below_alloc (Below.refl w.heap.size w) (.cells #[.bool leaf, .slice A1 keys.length c1, .slice A2 vals.length c2, .slice A3 kids.length c3] 29)) (.cells #[.bool false, .slice none 0 0, .slice none 0 0, .slice none 0 0] 29))
  simp only at hk hv hi
  replace h1 := hid h1
  replace h2 := hid h2
  replace h3 := hid h3
  replace l1 := hid l1
  replace l2 := hid l2
  replace l3 := hid l3
  rw [unhangF]
  simp only
  by_cases hc : ¬ leaf = false
  · obtain rfl : leaf = true := by simpa using hc
    rw [if_neg (by simp)]
    go_enter Try.func15, Try.ntmps15
    go_upto_region 1 with fail
    generalize (w.alloc (.cells #[.bool true, .slice A1 keys.length c1, .slice A2 vals.length c2, .slice A3 kids.length c3] 29)).alloc (.cells #[.bool false, .slice none 0 0, .slice none 0 0, .slice none 0 0] 29) = w1 at *
    have d0 : w1.cell? ⟨w.heap.size, 0, none⟩ = some (.bool true) := (blk_cell hx.out 0).trans rfl
    have d1 : w1.cell? ⟨w.heap.size, 1, none⟩ = some (.slice A1 keys.length c1) := (blk_cell hx.out 1).trans rfl
    have d2 : w1.cell? ⟨w.heap.size, 2, none⟩ = some (.slice A2 vals.length c2) := (blk_cell hx.out 2).trans rfl
    have d3 : w1.cell? ⟨w.heap.size, 3, none⟩ = some (.slice A3 kids.length c3) := (blk_cell hx.out 3).trans rfl
    have e0 : w1.cell? ⟨w.heap.size + 1, 0, none⟩ = some (.bool false) := (blk_cell hr.out 0).trans rfl
    have f0 := blk_frozen (w := w1) hr.out 0
    have e1 : w1.cell? ⟨w.heap.size + 1, 1, none⟩ = some (.slice none 0 0) := (blk_cell hr.out 1).trans rfl
    have f1 := blk_frozen (w := w1) hr.out 1
    have e2 : w1.cell? ⟨w.heap.size + 1, 2, none⟩ = some (.slice none 0 0) := (blk_cell hr.out 2).trans rfl
    have f2 := blk_frozen (w := w1) hr.out 2
    have e3 : w1.cell? ⟨w.heap.size + 1, 3, none⟩ = some (.slice none 0 0) := (blk_cell hr.out 3).trans rfl
    have f3 := blk_frozen (w := w1) hr.out 3
    have hZ := hid (blk_set (blk_set (blk_set (blk_set hr.out 0 (.bool true)) 1 (.slice A1 keys.length c1)) 2 (.slice A2 vals.length c2)) 3 (.slice A3 kids.length c3))
    have hb := hid (below_set (below_set (below_set (below_set hB.out (Nat.le_succ _) 0 (.bool true)) (Nat.le_succ _) 1 (.slice A1 keys.length c1)) (Nat.le_succ _) 2 (.slice A2 vals.length c2)) (Nat.le_succ _) 3 (.slice A3 kids.length c3))
    go_wp2_with fail
    refine bodyPost_ret (results_cell_row rfl _ _ (w.heap.size + 1) 29 #[.bool true, .slice A1 keys.length c1, .slice A2 vals.length c2, .slice A3 kids.length c3] (0, 0) _ rfl hZ.out Try.underlying29 rfl (by kernel_rfl)) rfl ?_
    exact ⟨_, rfl, At.mk_ (x := ⟨true, keys, vals, kids⟩) (Kd.C_below h1.out hb.out) l1.out (Kd.C_below h2.out hb.out) l2.out (Kd.C_below h3.out hb.out) l3.out, hb.out⟩
  obtain rfl : leaf = false := by simpa using hc
  clear hc
  by_cases g1 : ¬ (0 ≤ i ∧ i < (keys.length : Int))
  · rw [if_neg (by simpa using g1)]
    have g2 : i < 0 ∨ (¬ i < 0 ∧ (keys.length : Int) ≤ i) := by omega
    clear hk hv hi g1
    rcases g2 with g2 | ⟨g2, g3⟩
    · go_enter Try.func15, Try.ntmps15
      go_upto_region 1 with fail
      generalize (w.alloc (.cells #[.bool false, .slice A1 keys.length c1, .slice A2 vals.length c2, .slice A3 kids.length c3] 29)).alloc (.cells #[.bool false, .slice none 0 0, .slice none 0 0, .slice none 0 0] 29) = w1 at *
      have d0 : w1.cell? ⟨w.heap.size, 0, none⟩ = some (.bool false) := (blk_cell hx.out 0).trans rfl
      have d1 : w1.cell? ⟨w.heap.size, 1, none⟩ = some (.slice A1 keys.length c1) := (blk_cell hx.out 1).trans rfl
      have d2 : w1.cell? ⟨w.heap.size, 2, none⟩ = some (.slice A2 vals.length c2) := (blk_cell hx.out 2).trans rfl
      have d3 : w1.cell? ⟨w.heap.size, 3, none⟩ = some (.slice A3 kids.length c3) := (blk_cell hx.out 3).trans rfl
      have e0 : w1.cell? ⟨w.heap.size + 1, 0, none⟩ = some (.bool false) := (blk_cell hr.out 0).trans rfl
      have f0 := blk_frozen (w := w1) hr.out 0
      have e1 : w1.cell? ⟨w.heap.size + 1, 1, none⟩ = some (.slice none 0 0) := (blk_cell hr.out 1).trans rfl
      have f1 := blk_frozen (w := w1) hr.out 1
      have e2 : w1.cell? ⟨w.heap.size + 1, 2, none⟩ = some (.slice none 0 0) := (blk_cell hr.out 2).trans rfl
      have f2 := blk_frozen (w := w1) hr.out 2
      have e3 : w1.cell? ⟨w.heap.size + 1, 3, none⟩ = some (.slice none 0 0) := (blk_cell hr.out 3).trans rfl
      have f3 := blk_frozen (w := w1) hr.out 3
      have hZ := hid (blk_set (blk_set (blk_set (blk_set hr.out 0 (.bool false)) 1 (.slice A1 keys.length c1)) 2 (.slice A2 vals.length c2)) 3 (.slice A3 kids.length c3))
      have hb := hid (below_set (below_set (below_set (below_set hB.out (Nat.le_succ _) 0 (.bool false)) (Nat.le_succ _) 1 (.slice A1 keys.length c1)) (Nat.le_succ _) 2 (.slice A2 vals.length c2)) (Nat.le_succ _) 3 (.slice A3 kids.length c3))
      go_wp2_with fail
      refine bodyPost_ret (results_cell_row rfl _ _ (w.heap.size + 1) 29 #[.bool false, .slice A1 keys.length c1, .slice A2 vals.length c2, .slice A3 kids.length c3] (0, 0) _ rfl hZ.out Try.underlying29 rfl (by kernel_rfl)) rfl ?_
      exact ⟨_, rfl, At.mk_ (x := ⟨false, keys, vals, kids⟩) (Kd.C_below h1.out hb.out) l1.out (Kd.C_below h2.out hb.out) l2.out (Kd.C_below h3.out hb.out) l3.out, hb.out⟩
    · go_enter Try.func15, Try.ntmps15
      go_upto_region 1 with fail
      generalize (w.alloc (.cells #[.bool false, .slice A1 keys.length c1, .slice A2 vals.length c2, .slice A3 kids.length c3] 29)).alloc (.cells #[.bool false, .slice none 0 0, .slice none 0 0, .slice none 0 0] 29) = w1 at *
      have d0 : w1.cell? ⟨w.heap.size, 0, none⟩ = some (.bool false) := (blk_cell hx.out 0).trans rfl
      have d1 : w1.cell? ⟨w.heap.size, 1, none⟩ = some (.slice A1 keys.length c1) := (blk_cell hx.out 1).trans rfl
      have d2 : w1.cell? ⟨w.heap.size, 2, none⟩ = some (.slice A2 vals.length c2) := (blk_cell hx.out 2).trans rfl
      have d3 : w1.cell? ⟨w.heap.size, 3, none⟩ = some (.slice A3 kids.length c3) := (blk_cell hx.out 3).trans rfl
      have e0 : w1.cell? ⟨w.heap.size + 1, 0, none⟩ = some (.bool false) := (blk_cell hr.out 0).trans rfl
      have f0 := blk_frozen (w := w1) hr.out 0
      have e1 : w1.cell? ⟨w.heap.size + 1, 1, none⟩ = some (.slice none 0 0) := (blk_cell hr.out 1).trans rfl
      have f1 := blk_frozen (w := w1) hr.out 1
      have e2 : w1.cell? ⟨w.heap.size + 1, 2, none⟩ = some (.slice none 0 0) := (blk_cell hr.out 2).trans rfl
      have f2 := blk_frozen (w := w1) hr.out 2
      have e3 : w1.cell? ⟨w.heap.size + 1, 3, none⟩ = some (.slice none 0 0) := (blk_cell hr.out 3).trans rfl
      have f3 := blk_frozen (w := w1) hr.out 3
      have hZ := hid (blk_set (blk_set (blk_set (blk_set hr.out 0 (.bool false)) 1 (.slice A1 keys.length c1)) 2 (.slice A2 vals.length c2)) 3 (.slice A3 kids.length c3))
      have hb := hid (below_set (below_set (below_set (below_set hB.out (Nat.le_succ _) 0 (.bool false)) (Nat.le_succ _) 1 (.slice A1 keys.length c1)) (Nat.le_succ _) 2 (.slice A2 vals.length c2)) (Nat.le_succ _) 3 (.slice A3 kids.length c3))
      go_wp2_with fail
      refine bodyPost_ret (results_cell_row rfl _ _ (w.heap.size + 1) 29 #[.bool false, .slice A1 keys.length c1, .slice A2 vals.length c2, .slice A3 kids.length c3] (0, 0) _ rfl hZ.out Try.underlying29 rfl (by kernel_rfl)) rfl ?_
      exact ⟨_, rfl, At.mk_ (x := ⟨false, keys, vals, kids⟩) (Kd.C_below h1.out hb.out) l1.out (Kd.C_below h2.out hb.out) l2.out (Kd.C_below h3.out hb.out) l3.out, hb.out⟩
  · replace g1 := Classical.not_not.1 g1
    rw [if_pos ⟨rfl, g1⟩]
    obtain ⟨k, rfl⟩ := Int.eq_ofNat_of_zero_le g1.1
    rw [Int.toNat_natCast]
    have g2 : ¬ ((k : Int) < 0) := by omega
    have g3 : ¬ ((keys.length : Int) ≤ k) := by omega
    have gk : k ≤ 1099511627776 := by omega
    have gw : wrap64 ((k : Int) + 1) = ((k + 1 : Nat) : Int) := by unfold wrap64; omega
    have HK := hid (fun W (hb : Below w.heap.size w W) => laidK keys [] k 1 A1 none c1 0 W (Kd.C_below h1.out hb) l1.out (Kd.C_nil _ W) gk (by omega) hk (by simp))
    have H2 := hid (fun W (hb : Below w.heap.size w W) => laidI kids [] (k + 1) 1 A3 none c3 0 W (Kd.C_below h3.out hb) l3.out (Kd.C_nil _ W) (by omega) (by omega) hi (by simp))
    rw [show laidF keys [] k 1 = keys.take k ++ [] ++ keys.drop (k + 1) from rfl, show laidF kids [] (k + 1) 1 = kids.take (k + 1) ++ [] ++ kids.drop ((k + 1) + 1) from rfl]
    generalize keys.take k ++ [] ++ keys.drop (k + 1) = r1 at HK ⊢
    generalize kids.take (k + 1) ++ [] ++ kids.drop ((k + 1) + 1) = r2 at H2 ⊢
    clear hk hv hi g1 gk
    go_enter Try.func15, Try.ntmps15
    go_upto_region 1 with fail
    generalize (w.alloc (.cells #[.bool false, .slice A1 keys.length c1, .slice A2 vals.length c2, .slice A3 kids.length c3] 29)).alloc (.cells #[.bool false, .slice none 0 0, .slice none 0 0, .slice none 0 0] 29) = w1 at *
    have d0 : w1.cell? ⟨w.heap.size, 0, none⟩ = some (.bool false) := (blk_cell hx.out 0).trans rfl
    have d1 : w1.cell? ⟨w.heap.size, 1, none⟩ = some (.slice A1 keys.length c1) := (blk_cell hx.out 1).trans rfl
    have d2 : w1.cell? ⟨w.heap.size, 2, none⟩ = some (.slice A2 vals.length c2) := (blk_cell hx.out 2).trans rfl
    have d3 : w1.cell? ⟨w.heap.size, 3, none⟩ = some (.slice A3 kids.length c3) := (blk_cell hx.out 3).trans rfl
    have e0 : w1.cell? ⟨w.heap.size + 1, 0, none⟩ = some (.bool false) := (blk_cell hr.out 0).trans rfl
    have f0 := blk_frozen (w := w1) hr.out 0
    have e1 : w1.cell? ⟨w.heap.size + 1, 1, none⟩ = some (.slice none 0 0) := (blk_cell hr.out 1).trans rfl
    have f1 := blk_frozen (w := w1) hr.out 1
    have e2 : w1.cell? ⟨w.heap.size + 1, 2, none⟩ = some (.slice none 0 0) := (blk_cell hr.out 2).trans rfl
    have f2 := blk_frozen (w := w1) hr.out 2
    have e3 : w1.cell? ⟨w.heap.size + 1, 3, none⟩ = some (.slice none 0 0) := (blk_cell hr.out 3).trans rfl
    have f3 := blk_frozen (w := w1) hr.out 3
    go_upto_region 3 with fail
    refine start_ (n := 11) (S := fun w' => Below w1.heap.size w1 w') (ds := [10]) #[false, false, false, false, false, false, false, false, false, false, false] (by kernel_rfl) rfl rfl (below_drew (Below.refl _ _)) (fun hHeld => ?_)
    refine pure_ (i := 0) (N := some 19) (v := ?_) (a' := ?_) #[true, false, false, false, false, false, false, false, false, false, false] rfl rfl (by kernel_rfl) (fun _ _ _ h => h) (Or.inl ⟨by rfl, ?_⟩) ?_ ?_
    rotate_left
    · intro w'
      go_simp
      with_reducible rfl
    rotate_left
    · simp only [Act.put, List.setIfInBounds_toArray, List.set_cons_zero, List.set_cons_succ, i64_w, i32_w]
      rfl
    refine take_ (i := 1) (N := some 20) (v := ?_) (a' := ?_) #[true, true, false, false, false, false, false, false, false, false, false] rfl rfl (by kernel_rfl) (fun _ _ _ h => h) (Or.inl ⟨by rfl, ?_⟩) hHeld ?_ ?_
    rotate_left
    · rintro w' hb'
      have dd := pw_cell_below hb' d1
      go_simp
      with_reducible rfl
    rotate_left
    · simp only [Act.put, List.setIfInBounds_toArray, List.set_cons_zero, List.set_cons_succ, i64_w, i32_w]
      rfl
    refine pure_ (i := 2) (N := some 21) (v := ?_) (a' := ?_) #[true, true, true, false, false, false, false, false, false, false, false] rfl rfl (by kernel_rfl) (fun _ _ _ h => h) (Or.inl ⟨by rfl, ?_⟩) ?_ ?_
    rotate_left
    · intro w'
      go_simp
      with_reducible rfl
    rotate_left
    · simp only [Act.put, List.setIfInBounds_toArray, List.set_cons_zero, List.set_cons_succ, i64_w, i32_w]
      rfl
    refine pure_ (i := 4) (N := some 23) (v := ?_) (a' := ?_) #[true, true, true, false, true, false, false, false, false, false, false] rfl rfl (by kernel_rfl) (fun _ _ _ h => h) (Or.inl ⟨by rfl, ?_⟩) ?_ ?_
    rotate_left
    · intro w'
      go_simp
      with_reducible rfl
    rotate_left
    · simp only [Act.put, List.setIfInBounds_toArray, List.set_cons_zero, List.set_cons_succ, i64_w, i32_w]
      rfl
    refine take_ (i := 5) (N := some 24) (v := ?_) (a' := ?_) #[true, true, true, false, true, true, false, false, false, false, false] rfl rfl (by kernel_rfl) (fun _ _ _ h => h) (Or.inl ⟨by rfl, ?_⟩) hHeld ?_ ?_
    rotate_left
    · rintro w' hb'
      have dd := pw_cell_below hb' d3
      go_simp
      with_reducible rfl
    rotate_left
    · simp only [Act.put, List.setIfInBounds_toArray, List.set_cons_zero, List.set_cons_succ, i64_w, i32_w]
      rfl
    refine pure_ (i := 6) (N := some 25) (v := ?_) (a' := ?_) #[true, true, true, false, true, true, true, false, false, false, false] rfl rfl (by kernel_rfl) (fun _ _ _ h => h) (Or.inl ⟨by rfl, ?_⟩) ?_ ?_
    rotate_left
    · intro w'
      go_simp
      with_reducible rfl
    rotate_left
    · simp only [Act.put, List.setIfInBounds_toArray, List.set_cons_zero, List.set_cons_succ, i64_w, i32_w]
      rfl
    refine pure_ (i := 7) (N := some 26) (v := ?_) (a' := ?_) #[true, true, true, false, true, true, true, true, false, false, false] rfl rfl (by kernel_rfl) (fun _ _ _ h => h) (Or.inl ⟨by rfl, ?_⟩) ?_ ?_
    rotate_left
    · intro w'
      go_simp
      with_reducible rfl
    rotate_left
    · simp only [Act.put, List.setIfInBounds_toArray, List.set_cons_zero, List.set_cons_succ, i64_w, i32_w]
      rfl
    refine one_ (i := 3) (N := some 22) #[true, true, true, true, true, true, true, true, false, false, false] rfl rfl (by kernel_rfl) (by decide) (fun K hK => ?_)
    refine goes_ Try.func35 (by kernel_rfl) rfl #[.slice A1 keys.length c1, .int .i64 (k : Int), .int .i64 1, .slice none 0 0] (by rfl) rfl rfl (by (try simp only [List.map_toArray, List.map_cons, List.map_nil]); first | done | rfl) ?_
    refine (HK.out _ (below_drew hB.out)).mono ?_
    rintro r w5 ⟨A5, c5, rfl, q1, q2, q3, q4⟩
    replace q1 := hid q1
    replace q2 := hid q2
    have q5 := hid (fun ad (e : A5 = some ad) => (show ad.block ≠ w.heap.size + 1 from by have h1 := q4 ad e; have h2 : w.heap.size + 1 < w1.heap.size := blk_lt hr.out; have h3 : w1.heap.size ≤ w1.drew.heap.size := Nat.le_refl _; omega))
    have s3 := below_then (below_drew (Below.refl _ _)) (Nat.le_refl _) q3
    have t3 := hid (below_then (below_drew hB.out) (below_drew hB.out).size q3)
    refine ⟨_, rfl, ?_⟩
    refine hK.out _ _ s3 (fun hHeld => ?_)
    clear hK K
    refine norm_ (a' := ?_) ?_ ?_
    rotate_left
    · show Act.put _ (some 22) _ = _
      simp only [Act.put, List.setIfInBounds_toArray, List.set_cons_zero, List.set_cons_succ, i64_w, i32_w]
      rfl
    refine one_ (i := 8) (N := some 27) #[true, true, true, true, true, true, true, true, true, false, false] rfl rfl (by kernel_rfl) (by decide) (fun K hK => ?_)
    refine goes_ Try.func36 (by kernel_rfl) rfl #[.slice A3 kids.length c3, .int .i64 (wrap64 ((k : Int) + 1)), .int .i64 1, .slice none 0 0] (by rfl) rfl rfl (by (try simp only [List.map_toArray, List.map_cons, List.map_nil]); first | done | rfl) ?_
    rw [gw]
    refine (H2.out _ t3.out).mono ?_
    rintro r w6 ⟨A6, c6, rfl, p1, p2, p3, p4⟩
    replace p1 := hid p1
    replace p2 := hid p2
    have p5 := hid (fun ad (e : A6 = some ad) => (show ad.block ≠ w.heap.size + 1 from by have h1 := p4 ad e; have h2 : w.heap.size + 1 < w5.heap.size := blk_lt ((s3.block _ (blk_lt hr.out)).trans hr.out); omega))
    have s4 := below_then s3 s3.size p3
    replace q2 := hid (Kd.C_below q2.out p3)
    have hbx := hid (below_then t3.out t3.out.size p3)
    replace hr := hid ((s4.block _ (blk_lt hr.out)).trans hr.out)
    refine ⟨_, rfl, ?_⟩
    refine hK.out _ _ s4 (fun hHeld => ?_)
    clear hK K
    refine norm_ (a' := ?_) ?_ ?_
    rotate_left
    · show Act.put _ (some 27) _ = _
      simp only [Act.put, List.setIfInBounds_toArray, List.set_cons_zero, List.set_cons_succ, i64_w, i32_w]
      rfl
    refine pure_ (i := 9) (N := some 28) (v := ?_) (a' := ?_) #[true, true, true, true, true, true, true, true, true, true, false] rfl rfl (by kernel_rfl) (fun _ _ _ h => h) (Or.inl ⟨by rfl, ?_⟩) ?_ ?_
    rotate_left
    · intro w'
      go_simp
      with_reducible rfl
    rotate_left
    · simp only [Act.put, List.setIfInBounds_toArray, List.set_cons_zero, List.set_cons_succ, i64_w, i32_w]
      rfl
    have y0 : w6.cell? ⟨w.heap.size + 1, 0, none⟩ = some (.bool false) := (blk_cell hr.out 0).trans rfl
    have z0 := blk_frozen (w := w6) hr.out 0
    have y1 : w6.cell? ⟨w.heap.size + 1, 1, none⟩ = some (.slice none 0 0) := (blk_cell hr.out 1).trans rfl
    have z1 := blk_frozen (w := w6) hr.out 1
    have y2 : w6.cell? ⟨w.heap.size + 1, 2, none⟩ = some (.slice none 0 0) := (blk_cell hr.out 2).trans rfl
    have z2 := blk_frozen (w := w6) hr.out 2
    have y3 : w6.cell? ⟨w.heap.size + 1, 3, none⟩ = some (.slice none 0 0) := (blk_cell hr.out 3).trans rfl
    have z3 := blk_frozen (w := w6) hr.out 3
    refine last_ (i := 10) (N := none) #[true, true, true, true, true, true, true, true, true, true, true] rfl rfl (by kernel_rfl) (by decide) (fun K hK => ?_)
    refine skip_ (w1 := ?_) (by rfl) rfl ?_ ?_
    rotate_left
    · go_simp
      with_reducible rfl
    refine hK.out _ _ ?_
    clear hK K
    refine done_ (by kernel_rfl) ?_
    have hZ := hid (blk_set (blk_set (blk_set (blk_set hr.out 0 (.bool false)) 1 (.slice A5 r1.length c5)) 2 (.slice none 0 0)) 3 (.slice A6 r2.length c6))
    have hb := hid (below_set (below_set (below_set (below_set hbx.out (Nat.le_succ _) 0 (.bool false)) (Nat.le_succ _) 1 (.slice A5 r1.length c5)) (Nat.le_succ _) 2 (.slice none 0 0)) (Nat.le_succ _) 3 (.slice A6 r2.length c6))
    go_wp2_with fail
    refine bodyPost_ret (results_cell_row rfl _ _ (w.heap.size + 1) 29 #[.bool false, .slice A5 r1.length c5, .slice none 0 0, .slice A6 r2.length c6] (0, 0) _ rfl hZ.out Try.underlying29 rfl (by kernel_rfl)) rfl ?_
    have hq := hid (C_far1 (C_far1 (C_far1 (C_far1 q2.out q5.out 0 (.bool false)) q5.out 1 (.slice A5 r1.length c5)) q5.out 2 (.slice none 0 0)) q5.out 3 (.slice A6 r2.length c6))
    have hp := hid (C_far1 (C_far1 (C_far1 (C_far1 p2.out p5.out 0 (.bool false)) p5.out 1 (.slice A5 r1.length c5)) p5.out 2 (.slice none 0 0)) p5.out 3 (.slice A6 r2.length c6))
    exact ⟨_, rfl, At.mk_ (x := ⟨false, r1, [], r2⟩) hq.out q1.out (Kd.C_nil _ _) (Nat.le_refl _) hp.out p1.out, hb.out⟩
end Go.Proofs.Ytnghbfegijnolaa.A
