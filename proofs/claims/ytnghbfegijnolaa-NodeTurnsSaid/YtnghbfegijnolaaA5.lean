/-
  Put, Hang.
-/
import Derived.Test.YtnghbfegijnolaaA4
namespace Go.Proofs.Ytnghbfegijnolaa.A
set_option linter.unusedVariables false
set_option linter.unusedSimpArgs false
open Go.RowKit Go.Proofs.YtnghbfegijnolaaW.PrintWords Go.Proofs.YtnghbfegijnolaaW.PrintLast Go.Proofs.YtnghbfegijnolaaW.PrintMore
open Go.Lib (hid)
def goneF (b : Bool) : Nat := if b = true then 1 else 0
def putF (x : Nd) (key : Int) (val : ByteArray) : Nd := if x.leaf = true then ⟨true, laidF x.keys [key] (place x.keys key) (goneF (isAt x.keys key)), laidF x.vals [val] (place x.keys key) (goneF (isAt x.keys key)), []⟩ else x
def hangF (x : Nd) (i key kid : Int) : Nd := if x.leaf = false ∧ 0 ≤ i ∧ i ≤ x.keys.length then ⟨false, laidF x.keys [key] i.toNat 0, [], laidF x.kids [kid] (i.toNat + 1) 0⟩ else x
set_option maxHeartbeats 1000000 in
set_option maxRecDepth 100000 in
theorem put_walk (x : Nd) (v : Value) (key : Int) (val : ByteArray) (w : World) (H : At w v x) (hk : x.keys.length ≤ 1099511627776) (hv : x.vals.length ≤ 1099511627776) :
    Calls Try.prog 22 #[v, .int .u64 key, .string val] w fun e w' => ∃ v', e = .returned v' ∧ At w' v' (putF x key val) ∧ Below w.heap.size w w' := by
  obtain ⟨A1, c1, A2, c2, A3, c3, rfl, ⟨h1, l1⟩, ⟨h2, l2⟩, ⟨h3, l3⟩⟩ := H
  obtain ⟨leaf, keys, vals, kids⟩ := x
  simp only at h1 l1 h2 l2 h3 l3 ⊢
  have hx : Hid (((w.alloc (.cells #[.bool leaf, .slice A1 keys.length c1, .slice A2 vals.length c2, .slice A3 kids.length c3] 29)).alloc (.cells #[.bool false, .slice none 0 0, .slice none 0 0, .slice none 0 0] 29)).heap[w.heap.size]? = some (.cells #[.bool leaf, .slice A1 keys.length c1, .slice A2 vals.length c2, .slice A3 kids.length c3] 29 (0, 0))) := hid (alloc2_fst w _ _)
  have hr : Hid (((w.alloc (.cells #[.bool leaf, .slice A1 keys.length c1, .slice A2 vals.length c2, .slice A3 kids.length c3] 29)).alloc (.cells #[.bool false, .slice none 0 0, .slice none 0 0, .slice none 0 0] 29)).heap[w.heap.size + 1]? = some (.cells #[.bool false, .slice none 0 0, .slice none 0 0, .slice none 0 0] 29 (0, 0))) := hid (alloc2_snd w _ _)
  have hB := hid (below_alloc (below_alloc (Below.refl w.heap.size w) (.cells #[.bool leaf, .slice A1 keys.length c1, .slice A2 vals.length c2, .slice A3 kids.length c3] 29)) (.cells #[.bool false, .slice none 0 0, .slice none 0 0, .slice none 0 0] 29))
  simp only at hk hv
  replace h1 := hid h1
  replace h2 := hid h2
  replace h3 := hid h3
  replace l1 := hid l1
  replace l2 := hid l2
  replace l3 := hid l3
  rw [putF]
  simp only
  by_cases hc : ¬ leaf = true
  · obtain rfl : leaf = false := by simpa using hc
    rw [if_neg (by simp)]
    go_enter Try.func22, Try.ntmps22
    go_upto_region 1 with fail
    generalize (w.alloc (.cells #[.bool false, .slice A1 keys.length c1, .slice A2 vals.length c2, .slice A3 kids.length c3] 29)).alloc (.cells #[.bool false, .slice none 0 0, .slice none 0 0, .slice none 0 0] 29) = w1 at *
    have d0 : w1.cell? ⟨w.heap.size, 0, none⟩ = some (.bool false) := (blk_cell hx.out 0).trans rfl
    have d1 : w1.cell? ⟨w.heap.size, 1, none⟩ = some (.slice A1 keys.length c1) := (blk_cell hx.out 1).trans rfl
    have d2 : w1.cell? ⟨w.heap.size, 2, none⟩ = some (.slice A2 vals.length c2) := (blk_cell hx.out 2).trans rfl
    have d3 : w1.cell? ⟨w.heap.size, 3, none⟩ = some (.slice A3 kids.length c3) := (blk_cell hx.out 3).trans rfl
    have e0 : w1.cell? ⟨w.heap.size + 1, 0, none⟩ = some (.bool false) := (blk_cell hr.out 0).trans rfl
    have f0 := blk_frozen (w := w1) hr.out 0
    have e1 : w1.cell? ⟨w.heap.size + 1, 1, none⟩ = some (.slice none 0 0) := (blk_cell hr.out 1).trans rfl
    have f1 := blk_frozen (w := w1) hr.out 1
    have e2 : w1.cell? ⟨w.heap.size + 1, 2, none⟩ = some (.slice none 0 0) := (blk_cell hr.out 2).trans rfl
    have f2 := blk_frozen (w := w1) hr.out 2
    have e3 : w1.cell? ⟨w.heap.size + 1, 3, none⟩ = some (.slice none 0 0) := (blk_cell hr.out 3).trans rfl
    have f3 := blk_frozen (w := w1) hr.out 3
    have hZ := hid (blk_set (blk_set (blk_set (blk_set hr.out 0 (.bool false)) 1 (.slice A1 keys.length c1)) 2 (.slice A2 vals.length c2)) 3 (.slice A3 kids.length c3))
    have hb := hid (below_set (below_set (below_set (below_set hB.out (Nat.le_succ _) 0 (.bool false)) (Nat.le_succ _) 1 (.slice A1 keys.length c1)) (Nat.le_succ _) 2 (.slice A2 vals.length c2)) (Nat.le_succ _) 3 (.slice A3 kids.length c3))
    go_wp2_with fail
    refine bodyPost_ret (results_cell_row rfl _ _ (w.heap.size + 1) 29 #[.bool false, .slice A1 keys.length c1, .slice A2 vals.length c2, .slice A3 kids.length c3] (0, 0) _ rfl hZ.out Try.underlying29 rfl (by kernel_rfl)) rfl ?_
    exact ⟨_, rfl, At.mk_ (x := ⟨false, keys, vals, kids⟩) (Kd.C_below h1.out hb.out) l1.out (Kd.C_below h2.out hb.out) l2.out (Kd.C_below h3.out hb.out) l3.out, hb.out⟩
  obtain rfl : leaf = true := by simpa using hc
  clear hc
  rw [if_pos rfl]
  have hP := hid (fun W (hb : Below w.heap.size w W) => place_walk keys key A1 c1 W (Kd.C_below h1.out hb) hk)
  have hpl : place keys key ≤ 1099511627776 := Nat.le_trans (placeF_le keys key keys.length 0 keys.length (Nat.zero_le _)) hk
  generalize place keys key = p at hP hpl ⊢
  generalize isAt keys key = q at hP ⊢
  obtain ⟨ga, hga⟩ : ∃ g, g = goneF q := ⟨_, rfl⟩
  have hgl : ga ≤ 1099511627776 := by rw [hga]; unfold goneF; split <;> omega
  rw [← hga]
  obtain ⟨r1, hR1⟩ : ∃ r, keys.take p ++ [key] ++ keys.drop (p + ga) = r := ⟨_, rfl⟩
  obtain ⟨r2, hR2⟩ : ∃ r, vals.take p ++ [val] ++ vals.drop (p + ga) = r := ⟨_, rfl⟩
  rw [show laidF keys [key] p ga = r1 from hR1, show laidF vals [val] p ga = r2 from hR2]
  replace hR1 := hid hR1
  replace hR2 := hid hR2
  cases q with
  | true =>
    obtain rfl : ga = 1 := by rw [hga]; rfl
    clear hga
    go_enter Try.func22, Try.ntmps22
    go_upto_region 1 with fail
    generalize (w.alloc (.cells #[.bool true, .slice A1 keys.length c1, .slice A2 vals.length c2, .slice A3 kids.length c3] 29)).alloc (.cells #[.bool false, .slice none 0 0, .slice none 0 0, .slice none 0 0] 29) = w1 at *
    have d0 : w1.cell? ⟨w.heap.size, 0, none⟩ = some (.bool true) := (blk_cell hx.out 0).trans rfl
    have d1 : w1.cell? ⟨w.heap.size, 1, none⟩ = some (.slice A1 keys.length c1) := (blk_cell hx.out 1).trans rfl
    have d2 : w1.cell? ⟨w.heap.size, 2, none⟩ = some (.slice A2 vals.length c2) := (blk_cell hx.out 2).trans rfl
    have d3 : w1.cell? ⟨w.heap.size, 3, none⟩ = some (.slice A3 kids.length c3) := (blk_cell hx.out 3).trans rfl
    have e0 : w1.cell? ⟨w.heap.size + 1, 0, none⟩ = some (.bool false) := (blk_cell hr.out 0).trans rfl
    have f0 := blk_frozen (w := w1) hr.out 0
    have e1 : w1.cell? ⟨w.heap.size + 1, 1, none⟩ = some (.slice none 0 0) := (blk_cell hr.out 1).trans rfl
    have f1 := blk_frozen (w := w1) hr.out 1
    have e2 : w1.cell? ⟨w.heap.size + 1, 2, none⟩ = some (.slice none 0 0) := (blk_cell hr.out 2).trans rfl
    have f2 := blk_frozen (w := w1) hr.out 2
    have e3 : w1.cell? ⟨w.heap.size + 1, 3, none⟩ = some (.slice none 0 0) := (blk_cell hr.out 3).trans rfl
    have f3 := blk_frozen (w := w1) hr.out 3
    go_upto_region 4 with (first | ((with_reducible refine Calls.mono (hP.out _ hB.out) ?_); rintro r w3 ⟨rfl, hb3⟩; replace hx := hid ((hb3.block _ (blk_lt hx.out)).trans hx.out); replace hr := hid ((hb3.block _ (blk_lt hr.out)).trans hr.out); replace hB := hid (below_then hB.out hB.out.size hb3)))
    clear d0 d1 d2 d3 e0 e1 e2 e3 f0 f1 f2 f3 hP
    have d0 : w3.cell? ⟨w.heap.size, 0, none⟩ = some (.bool true) := (blk_cell hx.out 0).trans rfl
    have d1 : w3.cell? ⟨w.heap.size, 1, none⟩ = some (.slice A1 keys.length c1) := (blk_cell hx.out 1).trans rfl
    have d2 : w3.cell? ⟨w.heap.size, 2, none⟩ = some (.slice A2 vals.length c2) := (blk_cell hx.out 2).trans rfl
    have d3 : w3.cell? ⟨w.heap.size, 3, none⟩ = some (.slice A3 kids.length c3) := (blk_cell hx.out 3).trans rfl
    go_upto_region 7 with fail
    have tt := hB
    have hs := hid (Below.refl w3.heap.size w3)
    refine start_ (n := 16) (S := fun w' => Below w3.heap.size w3 w') (ds := [15]) #[false, false, false, false, false, false, false, false, false, false, false, false, false, false, false, false] (by kernel_rfl) rfl rfl (below_drew (Below.refl _ _)) (fun hHeld => ?_)
    refine pure_ (i := 0) (N := some 22) (v := ?_) (a' := ?_) #[true, false, false, false, false, false, false, false, false, false, false, false, false, false, false, false] rfl rfl (by kernel_rfl) (fun _ _ _ h => h) (Or.inl ⟨by rfl, ?_⟩) ?_ ?_
    rotate_left
    · intro w'
      go_simp
      with_reducible rfl
    rotate_left
    · simp only [Act.put, List.setIfInBounds_toArray, List.set_cons_zero, List.set_cons_succ, i64_w, i32_w]
      rfl
    refine take_ (i := 1) (N := some 23) (v := ?_) (a' := ?_) #[true, true, false, false, false, false, false, false, false, false, false, false, false, false, false, false] rfl rfl (by kernel_rfl) (fun _ _ _ h => h) (Or.inl ⟨by rfl, ?_⟩) hHeld ?_ ?_
    rotate_left
    · rintro w' hb'
      have dd := pw_cell_below hb' d1
      go_simp
      with_reducible rfl
    rotate_left
    · simp only [Act.put, List.setIfInBounds_toArray, List.set_cons_zero, List.set_cons_succ, i64_w, i32_w]
      rfl
    refine pure_ (i := 2) (N := some 24) (v := ?_) (a' := ?_) #[true, true, true, false, false, false, false, false, false, false, false, false, false, false, false, false] rfl rfl (by kernel_rfl) (fun _ _ _ h => h) (Or.inl ⟨by rfl, ?_⟩) ?_ ?_
    rotate_left
    · intro w'
      go_simp
      with_reducible rfl
    rotate_left
    · simp only [Act.put, List.setIfInBounds_toArray, List.set_cons_zero, List.set_cons_succ, i64_w, i32_w]
      rfl
    refine pure_ (i := 3) (N := some 25) (v := ?_) (a' := ?_) #[true, true, true, true, false, false, false, false, false, false, false, false, false, false, false, false] rfl rfl (by kernel_rfl) (fun _ _ _ h => h) (Or.inl ⟨by rfl, ?_⟩) ?_ ?_
    rotate_left
    · intro w'
      go_simp
      with_reducible rfl
    rotate_left
    · simp only [Act.put, List.setIfInBounds_toArray, List.set_cons_zero, List.set_cons_succ, i64_w, i32_w]
      rfl
    refine pure_ (i := 4) (N := some 26) (v := ?_) (a' := ?_) #[true, true, true, true, true, false, false, false, false, false, false, false, false, false, false, false] rfl rfl (by kernel_rfl) (fun _ _ _ h => h) (Or.inl ⟨by rfl, ?_⟩) ?_ ?_
    rotate_left
    · intro w'
      go_simp
      with_reducible rfl
    rotate_left
    · simp only [Act.put, List.setIfInBounds_toArray, List.set_cons_zero, List.set_cons_succ, i64_w, i32_w]
      rfl
    refine pure_ (i := 7) (N := some 29) (v := ?_) (a' := ?_) #[true, true, true, true, true, false, false, true, false, false, false, false, false, false, false, false] rfl rfl (by kernel_rfl) (fun _ _ _ h => h) (Or.inl ⟨by rfl, ?_⟩) ?_ ?_
    rotate_left
    · intro w'
      go_simp
      with_reducible rfl
    rotate_left
    · simp only [Act.put, List.setIfInBounds_toArray, List.set_cons_zero, List.set_cons_succ, i64_w, i32_w]
      rfl
    refine take_ (i := 8) (N := some 30) (v := ?_) (a' := ?_) #[true, true, true, true, true, false, false, true, true, false, false, false, false, false, false, false] rfl rfl (by kernel_rfl) (fun _ _ _ h => h) (Or.inl ⟨by rfl, ?_⟩) hHeld ?_ ?_
    rotate_left
    · rintro w' hb'
      have dd := pw_cell_below hb' d2
      go_simp
      with_reducible rfl
    rotate_left
    · simp only [Act.put, List.setIfInBounds_toArray, List.set_cons_zero, List.set_cons_succ, i64_w, i32_w]
      rfl
    refine pure_ (i := 9) (N := some 31) (v := ?_) (a' := ?_) #[true, true, true, true, true, false, false, true, true, true, false, false, false, false, false, false] rfl rfl (by kernel_rfl) (fun _ _ _ h => h) (Or.inl ⟨by rfl, ?_⟩) ?_ ?_
    rotate_left
    · intro w'
      go_simp
      with_reducible rfl
    rotate_left
    · simp only [Act.put, List.setIfInBounds_toArray, List.set_cons_zero, List.set_cons_succ, i64_w, i32_w]
      rfl
    refine pure_ (i := 10) (N := some 32) (v := ?_) (a' := ?_) #[true, true, true, true, true, false, false, true, true, true, true, false, false, false, false, false] rfl rfl (by kernel_rfl) (fun _ _ _ h => h) (Or.inl ⟨by rfl, ?_⟩) ?_ ?_
    rotate_left
    · intro w'
      go_simp
      with_reducible rfl
    rotate_left
    · simp only [Act.put, List.setIfInBounds_toArray, List.set_cons_zero, List.set_cons_succ, i64_w, i32_w]
      rfl
    refine pure_ (i := 11) (N := some 33) (v := ?_) (a' := ?_) #[true, true, true, true, true, false, false, true, true, true, true, true, false, false, false, false] rfl rfl (by kernel_rfl) (fun _ _ _ h => h) (Or.inl ⟨by rfl, ?_⟩) ?_ ?_
    rotate_left
    · intro w'
      go_simp
      with_reducible rfl
    rotate_left
    · simp only [Act.put, List.setIfInBounds_toArray, List.set_cons_zero, List.set_cons_succ, i64_w, i32_w]
      rfl
    clear hHeld
    refine two_ (i := 5) (j := 12) (Ni := some 27) (Nj := some 34) #[true, true, true, true, true, true, false, true, true, true, true, true, false, false, false, false] #[true, true, true, true, true, false, false, true, true, true, true, true, true, false, false, false] rfl rfl rfl rfl (by kernel_rfl) (by decide) (by decide) (fun K hK => ?_) (fun K hK => ?_)
    · refine value_ (w1 := ?_) (v := ?_) (by rfl) rfl ?_ ?_
      rotate_left 2
      · go_simp
        constructor
        · rfl
        · rfl
      have st : Hid (Below w3.heap.size w3 ((w3.alloc (.cells #[.int .u64 key] 23)).drew)) := hid (below_drew (below_alloc (Below.refl _ _) _))
      have hg1 : Hid (((w3.alloc (.cells #[.int .u64 key] 23)).drew).heap[w3.heap.size]? = some (.cells #[.int .u64 key] 23 (0, 0))) := hid Array.getElem?_push_size
      refine hK.out _ _ (below_then hs.out hs.out.size st.out) (fun hHeld => ?_)
      clear hK K
      refine norm_ (a' := ?_) ?_ ?_
      rotate_left
      · show Act.put _ (some 27) _ = _
        simp only [Act.put, List.setIfInBounds_toArray, List.set_cons_zero, List.set_cons_succ, i64_w, i32_w]
        rfl
      generalize (w3.alloc (.cells #[.int .u64 key] 23)).drew = vB1 at st hg1 hHeld ⊢
      replace hr := hid ((st.out.block _ (blk_lt hr.out)).trans hr.out)
      replace tt := hid (below_then tt.out tt.out.size st.out)
      replace hs := hid (below_then hs.out hs.out.size st.out)
      clear st hHeld
      refine two_ (i := 6) (j := 12) (Ni := some 28) (Nj := some 34) #[true, true, true, true, true, true, true, true, true, true, true, true, false, false, false, false] #[true, true, true, true, true, true, false, true, true, true, true, true, true, false, false, false] rfl rfl rfl rfl (by kernel_rfl) (by decide) (by decide) (fun K hK => ?_) (fun K hK => ?_)
      · refine goes_ Try.func35 (by kernel_rfl) rfl #[.slice A1 keys.length c1, .int .i64 (p : Int), .int .i64 1, .slice (some ⟨w3.heap.size, 0, none⟩) 1 1] (by rfl) rfl rfl (by (try simp only [List.map_toArray, List.map_cons, List.map_nil]); first | done | rfl) ?_
        refine (laidK keys [key] p 1 A1 (some ⟨w3.heap.size, 0, none⟩) c1 1 vB1 (Kd.C_below h1.out tt.out) l1.out (C_row1 hg1.out) hpl (by decide) hk (by show 1 ≤ _; decide)).mono ?_
        rintro r w5 ⟨A5, c5, rfl, q1, q2, q3, q4⟩
        rw [hR1.out] at q1 q2 ⊢
        replace q1 := hid q1
        replace q2 := hid q2
        have st := hid q3
        have q5 := hid (fun ad (e : A5 = some ad) => (show ad.block ≠ w.heap.size + 1 from by have h1 := q4 ad e; have h2 : w.heap.size + 1 < vB1.heap.size := blk_lt hr.out; omega))
        clear q3 q4
        replace hg1 := hid ((st.out.block _ (blk_lt hg1.out)).trans hg1.out)
        replace hr := hid ((st.out.block _ (blk_lt hr.out)).trans hr.out)
        replace tt := hid (below_then tt.out tt.out.size st.out)
        replace hs := hid (below_then hs.out hs.out.size st.out)
        refine ⟨_, rfl, ?_⟩
        refine hK.out _ _ hs.out (fun hHeld => ?_)
        clear hK K
        refine norm_ (a' := ?_) ?_ ?_
        rotate_left
        · show Act.put _ (some 28) _ = _
          simp only [Act.put, List.setIfInBounds_toArray, List.set_cons_zero, List.set_cons_succ, i64_w, i32_w]
          rfl
        clear st hHeld
        refine one_ (i := 12) (N := some 34) #[true, true, true, true, true, true, true, true, true, true, true, true, true, false, false, false] rfl rfl (by kernel_rfl) (by decide) (fun K hK => ?_)
        refine value_ (w1 := ?_) (v := ?_) (by rfl) rfl ?_ ?_
        rotate_left 2
        · go_simp
          constructor
          · rfl
          · rfl
        have st : Hid (Below w5.heap.size w5 (w5.alloc (.cells #[.string val] 9))) := hid (below_alloc (Below.refl _ _) _)
        have hg2 : Hid ((w5.alloc (.cells #[.string val] 9)).heap[w5.heap.size]? = some (.cells #[.string val] 9 (0, 0))) := hid Array.getElem?_push_size
        refine hK.out _ _ (below_then hs.out hs.out.size st.out) (fun hHeld => ?_)
        clear hK K
        refine norm_ (a' := ?_) ?_ ?_
        rotate_left
        · show Act.put _ (some 34) _ = _
          simp only [Act.put, List.setIfInBounds_toArray, List.set_cons_zero, List.set_cons_succ, i64_w, i32_w]
          rfl
        generalize w5.alloc (.cells #[.string val] 9) = vB2 at st hg2 hHeld ⊢
        replace hg1 := hid ((st.out.block _ (blk_lt hg1.out)).trans hg1.out)
        replace q2 := hid (Kd.C_below q2.out st.out)
        replace hr := hid ((st.out.block _ (blk_lt hr.out)).trans hr.out)
        replace tt := hid (below_then tt.out tt.out.size st.out)
        replace hs := hid (below_then hs.out hs.out.size st.out)
        clear st hHeld
        refine one_ (i := 13) (N := some 35) #[true, true, true, true, true, true, true, true, true, true, true, true, true, true, false, false] rfl rfl (by kernel_rfl) (by decide) (fun K hK => ?_)
        refine goes_ Try.func47 (by kernel_rfl) rfl #[.slice A2 vals.length c2, .int .i64 (p : Int), .int .i64 1, .slice (some ⟨w5.heap.size, 0, none⟩) 1 1] (by rfl) rfl rfl (by (try simp only [List.map_toArray, List.map_cons, List.map_nil]); first | done | rfl) ?_
        refine (laidS vals [val] p 1 A2 (some ⟨w5.heap.size, 0, none⟩) c2 1 vB2 (Kd.C_below h2.out tt.out) l2.out (C_row1 hg2.out) hpl (by decide) hv (by show 1 ≤ _; decide)).mono ?_
        rintro r w6 ⟨A6, c6, rfl, p1, p2, p3, p4⟩
        rw [hR2.out] at p1 p2 ⊢
        replace p1 := hid p1
        replace p2 := hid p2
        have st := hid p3
        have p5 := hid (fun ad (e : A6 = some ad) => (show ad.block ≠ w.heap.size + 1 from by have h1 := p4 ad e; have h2 : w.heap.size + 1 < vB2.heap.size := blk_lt hr.out; omega))
        clear p3 p4
        replace hg1 := hid ((st.out.block _ (blk_lt hg1.out)).trans hg1.out)
        replace hg2 := hid ((st.out.block _ (blk_lt hg2.out)).trans hg2.out)
        replace q2 := hid (Kd.C_below q2.out st.out)
        replace hr := hid ((st.out.block _ (blk_lt hr.out)).trans hr.out)
        replace tt := hid (below_then tt.out tt.out.size st.out)
        replace hs := hid (below_then hs.out hs.out.size st.out)
        refine ⟨_, rfl, ?_⟩
        refine hK.out _ _ hs.out (fun hHeld => ?_)
        clear hK K
        refine norm_ (a' := ?_) ?_ ?_
        rotate_left
        · show Act.put _ (some 35) _ = _
          simp only [Act.put, List.setIfInBounds_toArray, List.set_cons_zero, List.set_cons_succ, i64_w, i32_w]
          rfl
        clear st hHeld
        refine pure_ (i := 14) (N := some 36) (v := ?_) (a' := ?_) #[true, true, true, true, true, true, true, true, true, true, true, true, true, true, true, false] rfl rfl (by kernel_rfl) (fun _ _ _ h => h) (Or.inl ⟨by rfl, ?_⟩) ?_ ?_
        rotate_left
        · intro w'
          go_simp
          with_reducible rfl
        rotate_left
        · simp only [Act.put, List.setIfInBounds_toArray, List.set_cons_zero, List.set_cons_succ, i64_w, i32_w]
          rfl
        have y0 : w6.cell? ⟨w.heap.size + 1, 0, none⟩ = some (.bool false) := (blk_cell hr.out 0).trans rfl
        have z0 := blk_frozen (w := w6) hr.out 0
        have y1 : w6.cell? ⟨w.heap.size + 1, 1, none⟩ = some (.slice none 0 0) := (blk_cell hr.out 1).trans rfl
        have z1 := blk_frozen (w := w6) hr.out 1
        have y2 : w6.cell? ⟨w.heap.size + 1, 2, none⟩ = some (.slice none 0 0) := (blk_cell hr.out 2).trans rfl
        have z2 := blk_frozen (w := w6) hr.out 2
        have y3 : w6.cell? ⟨w.heap.size + 1, 3, none⟩ = some (.slice none 0 0) := (blk_cell hr.out 3).trans rfl
        have z3 := blk_frozen (w := w6) hr.out 3
        refine last_ (i := 15) (N := none) #[true, true, true, true, true, true, true, true, true, true, true, true, true, true, true, true] rfl rfl (by kernel_rfl) (by decide) (fun K hK => ?_)
        refine skip_ (w1 := ?_) (by rfl) rfl ?_ ?_
        rotate_left
        · go_simp
          with_reducible rfl
        refine hK.out _ _ ?_
        clear hK K
        refine done_ (by kernel_rfl) ?_
        have hZ := hid (blk_set (blk_set (blk_set (blk_set hr.out 0 (.bool true)) 1 (.slice A5 r1.length c5)) 2 (.slice A6 r2.length c6)) 3 (.slice none 0 0))
        have hb := hid (below_set (below_set (below_set (below_set tt.out (Nat.le_succ _) 0 (.bool true)) (Nat.le_succ _) 1 (.slice A5 r1.length c5)) (Nat.le_succ _) 2 (.slice A6 r2.length c6)) (Nat.le_succ _) 3 (.slice none 0 0))
        go_wp2_with fail
        refine bodyPost_ret (results_cell_row rfl _ _ (w.heap.size + 1) 29 #[.bool true, .slice A5 r1.length c5, .slice A6 r2.length c6, .slice none 0 0] (0, 0) _ rfl hZ.out Try.underlying29 rfl (by kernel_rfl)) rfl ?_
        have hq := hid (C_far1 (C_far1 (C_far1 (C_far1 q2.out q5.out 0 (.bool true)) q5.out 1 (.slice A5 r1.length c5)) q5.out 2 (.slice A6 r2.length c6)) q5.out 3 (.slice none 0 0))
        have hp := hid (C_far1 (C_far1 (C_far1 (C_far1 p2.out p5.out 0 (.bool true)) p5.out 1 (.slice A5 r1.length c5)) p5.out 2 (.slice A6 r2.length c6)) p5.out 3 (.slice none 0 0))
        exact ⟨_, rfl, At.mk_ (x := ⟨true, r1, r2, []⟩) hq.out q1.out hp.out p1.out (Kd.C_nil _ _) (Nat.le_refl _), hb.out⟩
      · refine value_ (w1 := ?_) (v := ?_) (by rfl) rfl ?_ ?_
        rotate_left 2
        · go_simp
          constructor
          · rfl
          · rfl
        have st : Hid (Below vB1.heap.size vB1 (vB1.alloc (.cells #[.string val] 9))) := hid (below_alloc (Below.refl _ _) _)
        have hg2 : Hid ((vB1.alloc (.cells #[.string val] 9)).heap[vB1.heap.size]? = some (.cells #[.string val] 9 (0, 0))) := hid Array.getElem?_push_size
        refine hK.out _ _ (below_then hs.out hs.out.size st.out) (fun hHeld => ?_)
        clear hK K
        refine norm_ (a' := ?_) ?_ ?_
        rotate_left
        · show Act.put _ (some 34) _ = _
          simp only [Act.put, List.setIfInBounds_toArray, List.set_cons_zero, List.set_cons_succ, i64_w, i32_w]
          rfl
        generalize vB1.alloc (.cells #[.string val] 9) = vB2 at st hg2 hHeld ⊢
        replace hg1 := hid ((st.out.block _ (blk_lt hg1.out)).trans hg1.out)
        replace hr := hid ((st.out.block _ (blk_lt hr.out)).trans hr.out)
        replace tt := hid (below_then tt.out tt.out.size st.out)
        replace hs := hid (below_then hs.out hs.out.size st.out)
        clear st hHeld
        refine one_ (i := 6) (N := some 28) #[true, true, true, true, true, true, true, true, true, true, true, true, true, false, false, false] rfl rfl (by kernel_rfl) (by decide) (fun K hK => ?_)
        refine goes_ Try.func35 (by kernel_rfl) rfl #[.slice A1 keys.length c1, .int .i64 (p : Int), .int .i64 1, .slice (some ⟨w3.heap.size, 0, none⟩) 1 1] (by rfl) rfl rfl (by (try simp only [List.map_toArray, List.map_cons, List.map_nil]); first | done | rfl) ?_
        refine (laidK keys [key] p 1 A1 (some ⟨w3.heap.size, 0, none⟩) c1 1 vB2 (Kd.C_below h1.out tt.out) l1.out (C_row1 hg1.out) hpl (by decide) hk (by show 1 ≤ _; decide)).mono ?_
        rintro r w5 ⟨A5, c5, rfl, q1, q2, q3, q4⟩
        rw [hR1.out] at q1 q2 ⊢
        replace q1 := hid q1
        replace q2 := hid q2
        have st := hid q3
        have q5 := hid (fun ad (e : A5 = some ad) => (show ad.block ≠ w.heap.size + 1 from by have h1 := q4 ad e; have h2 : w.heap.size + 1 < vB2.heap.size := blk_lt hr.out; omega))
        clear q3 q4
        replace hg1 := hid ((st.out.block _ (blk_lt hg1.out)).trans hg1.out)
        replace hg2 := hid ((st.out.block _ (blk_lt hg2.out)).trans hg2.out)
        replace hr := hid ((st.out.block _ (blk_lt hr.out)).trans hr.out)
        replace tt := hid (below_then tt.out tt.out.size st.out)
        replace hs := hid (below_then hs.out hs.out.size st.out)
        refine ⟨_, rfl, ?_⟩
        refine hK.out _ _ hs.out (fun hHeld => ?_)
        clear hK K
        refine norm_ (a' := ?_) ?_ ?_
        rotate_left
        · show Act.put _ (some 28) _ = _
          simp only [Act.put, List.setIfInBounds_toArray, List.set_cons_zero, List.set_cons_succ, i64_w, i32_w]
          rfl
        clear st hHeld
        refine one_ (i := 13) (N := some 35) #[true, true, true, true, true, true, true, true, true, true, true, true, true, true, false, false] rfl rfl (by kernel_rfl) (by decide) (fun K hK => ?_)
        refine goes_ Try.func47 (by kernel_rfl) rfl #[.slice A2 vals.length c2, .int .i64 (p : Int), .int .i64 1, .slice (some ⟨vB1.heap.size, 0, none⟩) 1 1] (by rfl) rfl rfl (by (try simp only [List.map_toArray, List.map_cons, List.map_nil]); first | done | rfl) ?_
        refine (laidS vals [val] p 1 A2 (some ⟨vB1.heap.size, 0, none⟩) c2 1 w5 (Kd.C_below h2.out tt.out) l2.out (C_row1 hg2.out) hpl (by decide) hv (by show 1 ≤ _; decide)).mono ?_
        rintro r w6 ⟨A6, c6, rfl, p1, p2, p3, p4⟩
        rw [hR2.out] at p1 p2 ⊢
        replace p1 := hid p1
        replace p2 := hid p2
        have st := hid p3
        have p5 := hid (fun ad (e : A6 = some ad) => (show ad.block ≠ w.heap.size + 1 from by have h1 := p4 ad e; have h2 : w.heap.size + 1 < w5.heap.size := blk_lt hr.out; omega))
        clear p3 p4
        replace hg1 := hid ((st.out.block _ (blk_lt hg1.out)).trans hg1.out)
        replace hg2 := hid ((st.out.block _ (blk_lt hg2.out)).trans hg2.out)
        replace q2 := hid (Kd.C_below q2.out st.out)
        replace hr := hid ((st.out.block _ (blk_lt hr.out)).trans hr.out)
        replace tt := hid (below_then tt.out tt.out.size st.out)
        replace hs := hid (below_then hs.out hs.out.size st.out)
        refine ⟨_, rfl, ?_⟩
        refine hK.out _ _ hs.out (fun hHeld => ?_)
        clear hK K
        refine norm_ (a' := ?_) ?_ ?_
        rotate_left
        · show Act.put _ (some 35) _ = _
          simp only [Act.put, List.setIfInBounds_toArray, List.set_cons_zero, List.set_cons_succ, i64_w, i32_w]
          rfl
        clear st hHeld
        refine pure_ (i := 14) (N := some 36) (v := ?_) (a' := ?_) #[true, true, true, true, true, true, true, true, true, true, true, true, true, true, true, false] rfl rfl (by kernel_rfl) (fun _ _ _ h => h) (Or.inl ⟨by rfl, ?_⟩) ?_ ?_
        rotate_left
        · intro w'
          go_simp
          with_reducible rfl
        rotate_left
        · simp only [Act.put, List.setIfInBounds_toArray, List.set_cons_zero, List.set_cons_succ, i64_w, i32_w]
          rfl
        have y0 : w6.cell? ⟨w.heap.size + 1, 0, none⟩ = some (.bool false) := (blk_cell hr.out 0).trans rfl
        have z0 := blk_frozen (w := w6) hr.out 0
        have y1 : w6.cell? ⟨w.heap.size + 1, 1, none⟩ = some (.slice none 0 0) := (blk_cell hr.out 1).trans rfl
        have z1 := blk_frozen (w := w6) hr.out 1
        have y2 : w6.cell? ⟨w.heap.size + 1, 2, none⟩ = some (.slice none 0 0) := (blk_cell hr.out 2).trans rfl
        have z2 := blk_frozen (w := w6) hr.out 2
        have y3 : w6.cell? ⟨w.heap.size + 1, 3, none⟩ = some (.slice none 0 0) := (blk_cell hr.out 3).trans rfl
        have z3 := blk_frozen (w := w6) hr.out 3
        refine last_ (i := 15) (N := none) #[true, true, true, true, true, true, true, true, true, true, true, true, true, true, true, true] rfl rfl (by kernel_rfl) (by decide) (fun K hK => ?_)
        refine skip_ (w1 := ?_) (by rfl) rfl ?_ ?_
        rotate_left
        · go_simp
          with_reducible rfl
        refine hK.out _ _ ?_
        clear hK K
        refine done_ (by kernel_rfl) ?_
        have hZ := hid (blk_set (blk_set (blk_set (blk_set hr.out 0 (.bool true)) 1 (.slice A5 r1.length c5)) 2 (.slice A6 r2.length c6)) 3 (.slice none 0 0))
        have hb := hid (below_set (below_set (below_set (below_set tt.out (Nat.le_succ _) 0 (.bool true)) (Nat.le_succ _) 1 (.slice A5 r1.length c5)) (Nat.le_succ _) 2 (.slice A6 r2.length c6)) (Nat.le_succ _) 3 (.slice none 0 0))
        go_wp2_with fail
        refine bodyPost_ret (results_cell_row rfl _ _ (w.heap.size + 1) 29 #[.bool true, .slice A5 r1.length c5, .slice A6 r2.length c6, .slice none 0 0] (0, 0) _ rfl hZ.out Try.underlying29 rfl (by kernel_rfl)) rfl ?_
        have hq := hid (C_far1 (C_far1 (C_far1 (C_far1 q2.out q5.out 0 (.bool true)) q5.out 1 (.slice A5 r1.length c5)) q5.out 2 (.slice A6 r2.length c6)) q5.out 3 (.slice none 0 0))
        have hp := hid (C_far1 (C_far1 (C_far1 (C_far1 p2.out p5.out 0 (.bool true)) p5.out 1 (.slice A5 r1.length c5)) p5.out 2 (.slice A6 r2.length c6)) p5.out 3 (.slice none 0 0))
        exact ⟨_, rfl, At.mk_ (x := ⟨true, r1, r2, []⟩) hq.out q1.out hp.out p1.out (Kd.C_nil _ _) (Nat.le_refl _), hb.out⟩
    · refine value_ (w1 := ?_) (v := ?_) (by rfl) rfl ?_ ?_
      rotate_left 2
      · go_simp
        constructor
        · rfl
        · rfl
      have st : Hid (Below w3.heap.size w3 ((w3.alloc (.cells #[.string val] 9)).drew)) := hid (below_drew (below_alloc (Below.refl _ _) _))
      have hg2 : Hid (((w3.alloc (.cells #[.string val] 9)).drew).heap[w3.heap.size]? = some (.cells #[.string val] 9 (0, 0))) := hid Array.getElem?_push_size
      refine hK.out _ _ (below_then hs.out hs.out.size st.out) (fun hHeld => ?_)
      clear hK K
      refine norm_ (a' := ?_) ?_ ?_
      rotate_left
      · show Act.put _ (some 34) _ = _
        simp only [Act.put, List.setIfInBounds_toArray, List.set_cons_zero, List.set_cons_succ, i64_w, i32_w]
        rfl
      generalize (w3.alloc (.cells #[.string val] 9)).drew = vB2 at st hg2 hHeld ⊢
      replace hr := hid ((st.out.block _ (blk_lt hr.out)).trans hr.out)
      replace tt := hid (below_then tt.out tt.out.size st.out)
      replace hs := hid (below_then hs.out hs.out.size st.out)
      clear st hHeld
      refine one_ (i := 5) (N := some 27) #[true, true, true, true, true, true, false, true, true, true, true, true, true, false, false, false] rfl rfl (by kernel_rfl) (by decide) (fun K hK => ?_)
      refine value_ (w1 := ?_) (v := ?_) (by rfl) rfl ?_ ?_
      rotate_left 2
      · go_simp
        constructor
        · rfl
        · rfl
      have st : Hid (Below vB2.heap.size vB2 (vB2.alloc (.cells #[.int .u64 key] 23))) := hid (below_alloc (Below.refl _ _) _)
      have hg1 : Hid ((vB2.alloc (.cells #[.int .u64 key] 23)).heap[vB2.heap.size]? = some (.cells #[.int .u64 key] 23 (0, 0))) := hid Array.getElem?_push_size
      refine hK.out _ _ (below_then hs.out hs.out.size st.out) (fun hHeld => ?_)
      clear hK K
      refine norm_ (a' := ?_) ?_ ?_
      rotate_left
      · show Act.put _ (some 27) _ = _
        simp only [Act.put, List.setIfInBounds_toArray, List.set_cons_zero, List.set_cons_succ, i64_w, i32_w]
        rfl
      generalize vB2.alloc (.cells #[.int .u64 key] 23) = vB1 at st hg1 hHeld ⊢
      replace hg2 := hid ((st.out.block _ (blk_lt hg2.out)).trans hg2.out)
      replace hr := hid ((st.out.block _ (blk_lt hr.out)).trans hr.out)
      replace tt := hid (below_then tt.out tt.out.size st.out)
      replace hs := hid (below_then hs.out hs.out.size st.out)
      clear st hHeld
      refine one_ (i := 6) (N := some 28) #[true, true, true, true, true, true, true, true, true, true, true, true, true, false, false, false] rfl rfl (by kernel_rfl) (by decide) (fun K hK => ?_)
      refine goes_ Try.func35 (by kernel_rfl) rfl #[.slice A1 keys.length c1, .int .i64 (p : Int), .int .i64 1, .slice (some ⟨vB2.heap.size, 0, none⟩) 1 1] (by rfl) rfl rfl (by (try simp only [List.map_toArray, List.map_cons, List.map_nil]); first | done | rfl) ?_
      refine (laidK keys [key] p 1 A1 (some ⟨vB2.heap.size, 0, none⟩) c1 1 vB1 (Kd.C_below h1.out tt.out) l1.out (C_row1 hg1.out) hpl (by decide) hk (by show 1 ≤ _; decide)).mono ?_
      rintro r w5 ⟨A5, c5, rfl, q1, q2, q3, q4⟩
      rw [hR1.out] at q1 q2 ⊢
      replace q1 := hid q1
      replace q2 := hid q2
      have st := hid q3
      have q5 := hid (fun ad (e : A5 = some ad) => (show ad.block ≠ w.heap.size + 1 from by have h1 := q4 ad e; have h2 : w.heap.size + 1 < vB1.heap.size := blk_lt hr.out; omega))
      clear q3 q4
      replace hg1 := hid ((st.out.block _ (blk_lt hg1.out)).trans hg1.out)
      replace hg2 := hid ((st.out.block _ (blk_lt hg2.out)).trans hg2.out)
      replace hr := hid ((st.out.block _ (blk_lt hr.out)).trans hr.out)
      replace tt := hid (below_then tt.out tt.out.size st.out)
      replace hs := hid (below_then hs.out hs.out.size st.out)
      refine ⟨_, rfl, ?_⟩
      refine hK.out _ _ hs.out (fun hHeld => ?_)
      clear hK K
      refine norm_ (a' := ?_) ?_ ?_
      rotate_left
      · show Act.put _ (some 28) _ = _
        simp only [Act.put, List.setIfInBounds_toArray, List.set_cons_zero, List.set_cons_succ, i64_w, i32_w]
        rfl
      clear st hHeld
      refine one_ (i := 13) (N := some 35) #[true, true, true, true, true, true, true, true, true, true, true, true, true, true, false, false] rfl rfl (by kernel_rfl) (by decide) (fun K hK => ?_)
      refine goes_ Try.func47 (by kernel_rfl) rfl #[.slice A2 vals.length c2, .int .i64 (p : Int), .int .i64 1, .slice (some ⟨w3.heap.size, 0, none⟩) 1 1] (by rfl) rfl rfl (by (try simp only [List.map_toArray, List.map_cons, List.map_nil]); first | done | rfl) ?_
      refine (laidS vals [val] p 1 A2 (some ⟨w3.heap.size, 0, none⟩) c2 1 w5 (Kd.C_below h2.out tt.out) l2.out (C_row1 hg2.out) hpl (by decide) hv (by show 1 ≤ _; decide)).mono ?_
      rintro r w6 ⟨A6, c6, rfl, p1, p2, p3, p4⟩
      rw [hR2.out] at p1 p2 ⊢
      replace p1 := hid p1
      replace p2 := hid p2
      have st := hid p3
      have p5 := hid (fun ad (e : A6 = some ad) => (show ad.block ≠ w.heap.size + 1 from by have h1 := p4 ad e; have h2 : w.heap.size + 1 < w5.heap.size := blk_lt hr.out; omega))
      clear p3 p4
      replace hg1 := hid ((st.out.block _ (blk_lt hg1.out)).trans hg1.out)
      replace hg2 := hid ((st.out.block _ (blk_lt hg2.out)).trans hg2.out)
      replace q2 := hid (Kd.C_below q2.out st.out)
      replace hr := hid ((st.out.block _ (blk_lt hr.out)).trans hr.out)
      replace tt := hid (below_then tt.out tt.out.size st.out)
      replace hs := hid (below_then hs.out hs.out.size st.out)
      refine ⟨_, rfl, ?_⟩
      refine hK.out _ _ hs.out (fun hHeld => ?_)
      clear hK K
      refine norm_ (a' := ?_) ?_ ?_
      rotate_left
      · show Act.put _ (some 35) _ = _
        simp only [Act.put, List.setIfInBounds_toArray, List.set_cons_zero, List.set_cons_succ, i64_w, i32_w]
        rfl
      clear st hHeld
      refine pure_ (i := 14) (N := some 36) (v := ?_) (a' := ?_) #[true, true, true, true, true, true, true, true, true, true, true, true, true, true, true, false] rfl rfl (by kernel_rfl) (fun _ _ _ h => h) (Or.inl ⟨by rfl, ?_⟩) ?_ ?_
      rotate_left
      · intro w'
        go_simp
        with_reducible rfl
      rotate_left
      · simp only [Act.put, List.setIfInBounds_toArray, List.set_cons_zero, List.set_cons_succ, i64_w, i32_w]
        rfl
      have y0 : w6.cell? ⟨w.heap.size + 1, 0, none⟩ = some (.bool false) := (blk_cell hr.out 0).trans rfl
      have z0 := blk_frozen (w := w6) hr.out 0
      have y1 : w6.cell? ⟨w.heap.size + 1, 1, none⟩ = some (.slice none 0 0) := (blk_cell hr.out 1).trans rfl
      have z1 := blk_frozen (w := w6) hr.out 1
      have y2 : w6.cell? ⟨w.heap.size + 1, 2, none⟩ = some (.slice none 0 0) := (blk_cell hr.out 2).trans rfl
      have z2 := blk_frozen (w := w6) hr.out 2
      have y3 : w6.cell? ⟨w.heap.size + 1, 3, none⟩ = some (.slice none 0 0) := (blk_cell hr.out 3).trans rfl
      have z3 := blk_frozen (w := w6) hr.out 3
      refine last_ (i := 15) (N := none) #[true, true, true, true, true, true, true, true, true, true, true, true, true, true, true, true] rfl rfl (by kernel_rfl) (by decide) (fun K hK => ?_)
      refine skip_ (w1 := ?_) (by rfl) rfl ?_ ?_
      rotate_left
      · go_simp
        with_reducible rfl
      refine hK.out _ _ ?_
      clear hK K
      refine done_ (by kernel_rfl) ?_
      have hZ := hid (blk_set (blk_set (blk_set (blk_set hr.out 0 (.bool true)) 1 (.slice A5 r1.length c5)) 2 (.slice A6 r2.length c6)) 3 (.slice none 0 0))
      have hb := hid (below_set (below_set (below_set (below_set tt.out (Nat.le_succ _) 0 (.bool true)) (Nat.le_succ _) 1 (.slice A5 r1.length c5)) (Nat.le_succ _) 2 (.slice A6 r2.length c6)) (Nat.le_succ _) 3 (.slice none 0 0))
      go_wp2_with fail
      refine bodyPost_ret (results_cell_row rfl _ _ (w.heap.size + 1) 29 #[.bool true, .slice A5 r1.length c5, .slice A6 r2.length c6, .slice none 0 0] (0, 0) _ rfl hZ.out Try.underlying29 rfl (by kernel_rfl)) rfl ?_
      have hq := hid (C_far1 (C_far1 (C_far1 (C_far1 q2.out q5.out 0 (.bool true)) q5.out 1 (.slice A5 r1.length c5)) q5.out 2 (.slice A6 r2.length c6)) q5.out 3 (.slice none 0 0))
      have hp := hid (C_far1 (C_far1 (C_far1 (C_far1 p2.out p5.out 0 (.bool true)) p5.out 1 (.slice A5 r1.length c5)) p5.out 2 (.slice A6 r2.length c6)) p5.out 3 (.slice none 0 0))
      exact ⟨_, rfl, At.mk_ (x := ⟨true, r1, r2, []⟩) hq.out q1.out hp.out p1.out (Kd.C_nil _ _) (Nat.le_refl _), hb.out⟩
  | false =>
    obtain rfl : ga = 0 := by rw [hga]; rfl
    clear hga
    go_enter Try.func22, Try.ntmps22
    go_upto_region 1 with fail
    generalize (w.alloc (.cells #[.bool true, .slice A1 keys.length c1, .slice A2 vals.length c2, .slice A3 kids.length c3] 29)).alloc (.cells #[.bool false, .slice none 0 0, .slice none 0 0, .slice none 0 0] 29) = w1 at *
    have d0 : w1.cell? ⟨w.heap.size, 0, none⟩ = some (.bool true) := (blk_cell hx.out 0).trans rfl
    have d1 : w1.cell? ⟨w.heap.size, 1, none⟩ = some (.slice A1 keys.length c1) := (blk_cell hx.out 1).trans rfl
    have d2 : w1.cell? ⟨w.heap.size, 2, none⟩ = some (.slice A2 vals.length c2) := (blk_cell hx.out 2).trans rfl
    have d3 : w1.cell? ⟨w.heap.size, 3, none⟩ = some (.slice A3 kids.length c3) := (blk_cell hx.out 3).trans rfl
    have e0 : w1.cell? ⟨w.heap.size + 1, 0, none⟩ = some (.bool false) := (blk_cell hr.out 0).trans rfl
    have f0 := blk_frozen (w := w1) hr.out 0
    have e1 : w1.cell? ⟨w.heap.size + 1, 1, none⟩ = some (.slice none 0 0) := (blk_cell hr.out 1).trans rfl
    have f1 := blk_frozen (w := w1) hr.out 1
    have e2 : w1.cell? ⟨w.heap.size + 1, 2, none⟩ = some (.slice none 0 0) := (blk_cell hr.out 2).trans rfl
    have f2 := blk_frozen (w := w1) hr.out 2
    have e3 : w1.cell? ⟨w.heap.size + 1, 3, none⟩ = some (.slice none 0 0) := (blk_cell hr.out 3).trans rfl
    have f3 := blk_frozen (w := w1) hr.out 3
    go_upto_region 4 with (first | ((with_reducible refine Calls.mono (hP.out _ hB.out) ?_); rintro r w3 ⟨rfl, hb3⟩; replace hx := hid ((hb3.block _ (blk_lt hx.out)).trans hx.out); replace hr := hid ((hb3.block _ (blk_lt hr.out)).trans hr.out); replace hB := hid (below_then hB.out hB.out.size hb3)))
    clear d0 d1 d2 d3 e0 e1 e2 e3 f0 f1 f2 f3 hP
    have d0 : w3.cell? ⟨w.heap.size, 0, none⟩ = some (.bool true) := (blk_cell hx.out 0).trans rfl
    have d1 : w3.cell? ⟨w.heap.size, 1, none⟩ = some (.slice A1 keys.length c1) := (blk_cell hx.out 1).trans rfl
    have d2 : w3.cell? ⟨w.heap.size, 2, none⟩ = some (.slice A2 vals.length c2) := (blk_cell hx.out 2).trans rfl
    have d3 : w3.cell? ⟨w.heap.size, 3, none⟩ = some (.slice A3 kids.length c3) := (blk_cell hx.out 3).trans rfl
    go_upto_region 7 with fail
    have tt := hB
    have hs := hid (Below.refl w3.heap.size w3)
    refine start_ (n := 16) (S := fun w' => Below w3.heap.size w3 w') (ds := [15]) #[false, false, false, false, false, false, false, false, false, false, false, false, false, false, false, false] (by kernel_rfl) rfl rfl (below_drew (Below.refl _ _)) (fun hHeld => ?_)
    refine pure_ (i := 0) (N := some 22) (v := ?_) (a' := ?_) #[true, false, false, false, false, false, false, false, false, false, false, false, false, false, false, false] rfl rfl (by kernel_rfl) (fun _ _ _ h => h) (Or.inl ⟨by rfl, ?_⟩) ?_ ?_
    rotate_left
    · intro w'
      go_simp
      with_reducible rfl
    rotate_left
    · simp only [Act.put, List.setIfInBounds_toArray, List.set_cons_zero, List.set_cons_succ, i64_w, i32_w]
      rfl
    refine take_ (i := 1) (N := some 23) (v := ?_) (a' := ?_) #[true, true, false, false, false, false, false, false, false, false, false, false, false, false, false, false] rfl rfl (by kernel_rfl) (fun _ _ _ h => h) (Or.inl ⟨by rfl, ?_⟩) hHeld ?_ ?_
    rotate_left
    · rintro w' hb'
      have dd := pw_cell_below hb' d1
      go_simp
      with_reducible rfl
    rotate_left
    · simp only [Act.put, List.setIfInBounds_toArray, List.set_cons_zero, List.set_cons_succ, i64_w, i32_w]
      rfl
    refine pure_ (i := 2) (N := some 24) (v := ?_) (a' := ?_) #[true, true, true, false, false, false, false, false, false, false, false, false, false, false, false, false] rfl rfl (by kernel_rfl) (fun _ _ _ h => h) (Or.inl ⟨by rfl, ?_⟩) ?_ ?_
    rotate_left
    · intro w'
      go_simp
      with_reducible rfl
    rotate_left
    · simp only [Act.put, List.setIfInBounds_toArray, List.set_cons_zero, List.set_cons_succ, i64_w, i32_w]
      rfl
    refine pure_ (i := 3) (N := some 25) (v := ?_) (a' := ?_) #[true, true, true, true, false, false, false, false, false, false, false, false, false, false, false, false] rfl rfl (by kernel_rfl) (fun _ _ _ h => h) (Or.inl ⟨by rfl, ?_⟩) ?_ ?_
    rotate_left
    · intro w'
      go_simp
      with_reducible rfl
    rotate_left
    · simp only [Act.put, List.setIfInBounds_toArray, List.set_cons_zero, List.set_cons_succ, i64_w, i32_w]
      rfl
    refine pure_ (i := 4) (N := some 26) (v := ?_) (a' := ?_) #[true, true, true, true, true, false, false, false, false, false, false, false, false, false, false, false] rfl rfl (by kernel_rfl) (fun _ _ _ h => h) (Or.inl ⟨by rfl, ?_⟩) ?_ ?_
    rotate_left
    · intro w'
      go_simp
      with_reducible rfl
    rotate_left
    · simp only [Act.put, List.setIfInBounds_toArray, List.set_cons_zero, List.set_cons_succ, i64_w, i32_w]
      rfl
    refine pure_ (i := 7) (N := some 29) (v := ?_) (a' := ?_) #[true, true, true, true, true, false, false, true, false, false, false, false, false, false, false, false] rfl rfl (by kernel_rfl) (fun _ _ _ h => h) (Or.inl ⟨by rfl, ?_⟩) ?_ ?_
    rotate_left
    · intro w'
      go_simp
      with_reducible rfl
    rotate_left
    · simp only [Act.put, List.setIfInBounds_toArray, List.set_cons_zero, List.set_cons_succ, i64_w, i32_w]
      rfl
    refine take_ (i := 8) (N := some 30) (v := ?_) (a' := ?_) #[true, true, true, true, true, false, false, true, true, false, false, false, false, false, false, false] rfl rfl (by kernel_rfl) (fun _ _ _ h => h) (Or.inl ⟨by rfl, ?_⟩) hHeld ?_ ?_
    rotate_left
    · rintro w' hb'
      have dd := pw_cell_below hb' d2
      go_simp
      with_reducible rfl
    rotate_left
    · simp only [Act.put, List.setIfInBounds_toArray, List.set_cons_zero, List.set_cons_succ, i64_w, i32_w]
      rfl
    refine pure_ (i := 9) (N := some 31) (v := ?_) (a' := ?_) #[true, true, true, true, true, false, false, true, true, true, false, false, false, false, false, false] rfl rfl (by kernel_rfl) (fun _ _ _ h => h) (Or.inl ⟨by rfl, ?_⟩) ?_ ?_
    rotate_left
    · intro w'
      go_simp
      with_reducible rfl
    rotate_left
    · simp only [Act.put, List.setIfInBounds_toArray, List.set_cons_zero, List.set_cons_succ, i64_w, i32_w]
      rfl
    refine pure_ (i := 10) (N := some 32) (v := ?_) (a' := ?_) #[true, true, true, true, true, false, false, true, true, true, true, false, false, false, false, false] rfl rfl (by kernel_rfl) (fun _ _ _ h => h) (Or.inl ⟨by rfl, ?_⟩) ?_ ?_
    rotate_left
    · intro w'
      go_simp
      with_reducible rfl
    rotate_left
    · simp only [Act.put, List.setIfInBounds_toArray, List.set_cons_zero, List.set_cons_succ, i64_w, i32_w]
      rfl
    refine pure_ (i := 11) (N := some 33) (v := ?_) (a' := ?_) #[true, true, true, true, true, false, false, true, true, true, true, true, false, false, false, false] rfl rfl (by kernel_rfl) (fun _ _ _ h => h) (Or.inl ⟨by rfl, ?_⟩) ?_ ?_
    rotate_left
    · intro w'
      go_simp
      with_reducible rfl
    rotate_left
    · simp only [Act.put, List.setIfInBounds_toArray, List.set_cons_zero, List.set_cons_succ, i64_w, i32_w]
      rfl
    clear hHeld
    refine two_ (i := 5) (j := 12) (Ni := some 27) (Nj := some 34) #[true, true, true, true, true, true, false, true, true, true, true, true, false, false, false, false] #[true, true, true, true, true, false, false, true, true, true, true, true, true, false, false, false] rfl rfl rfl rfl (by kernel_rfl) (by decide) (by decide) (fun K hK => ?_) (fun K hK => ?_)
    · refine value_ (w1 := ?_) (v := ?_) (by rfl) rfl ?_ ?_
      rotate_left 2
      · go_simp
        constructor
        · rfl
        · rfl
      have st : Hid (Below w3.heap.size w3 ((w3.alloc (.cells #[.int .u64 key] 23)).drew)) := hid (below_drew (below_alloc (Below.refl _ _) _))
      have hg1 : Hid (((w3.alloc (.cells #[.int .u64 key] 23)).drew).heap[w3.heap.size]? = some (.cells #[.int .u64 key] 23 (0, 0))) := hid Array.getElem?_push_size
      refine hK.out _ _ (below_then hs.out hs.out.size st.out) (fun hHeld => ?_)
      clear hK K
      refine norm_ (a' := ?_) ?_ ?_
      rotate_left
      · show Act.put _ (some 27) _ = _
        simp only [Act.put, List.setIfInBounds_toArray, List.set_cons_zero, List.set_cons_succ, i64_w, i32_w]
        rfl
      generalize (w3.alloc (.cells #[.int .u64 key] 23)).drew = vB1 at st hg1 hHeld ⊢
      replace hr := hid ((st.out.block _ (blk_lt hr.out)).trans hr.out)
      replace tt := hid (below_then tt.out tt.out.size st.out)
      replace hs := hid (below_then hs.out hs.out.size st.out)
      clear st hHeld
      refine two_ (i := 6) (j := 12) (Ni := some 28) (Nj := some 34) #[true, true, true, true, true, true, true, true, true, true, true, true, false, false, false, false] #[true, true, true, true, true, true, false, true, true, true, true, true, true, false, false, false] rfl rfl rfl rfl (by kernel_rfl) (by decide) (by decide) (fun K hK => ?_) (fun K hK => ?_)
      · refine goes_ Try.func35 (by kernel_rfl) rfl #[.slice A1 keys.length c1, .int .i64 (p : Int), .int .i64 0, .slice (some ⟨w3.heap.size, 0, none⟩) 1 1] (by rfl) rfl rfl (by (try simp only [List.map_toArray, List.map_cons, List.map_nil]); first | done | rfl) ?_
        refine (laidK keys [key] p 0 A1 (some ⟨w3.heap.size, 0, none⟩) c1 1 vB1 (Kd.C_below h1.out tt.out) l1.out (C_row1 hg1.out) hpl (by decide) hk (by show 1 ≤ _; decide)).mono ?_
        rintro r w5 ⟨A5, c5, rfl, q1, q2, q3, q4⟩
        rw [hR1.out] at q1 q2 ⊢
        replace q1 := hid q1
        replace q2 := hid q2
        have st := hid q3
        have q5 := hid (fun ad (e : A5 = some ad) => (show ad.block ≠ w.heap.size + 1 from by have h1 := q4 ad e; have h2 : w.heap.size + 1 < vB1.heap.size := blk_lt hr.out; omega))
        clear q3 q4
        replace hg1 := hid ((st.out.block _ (blk_lt hg1.out)).trans hg1.out)
        replace hr := hid ((st.out.block _ (blk_lt hr.out)).trans hr.out)
        replace tt := hid (below_then tt.out tt.out.size st.out)
        replace hs := hid (below_then hs.out hs.out.size st.out)
        refine ⟨_, rfl, ?_⟩
        refine hK.out _ _ hs.out (fun hHeld => ?_)
        clear hK K
        refine norm_ (a' := ?_) ?_ ?_
        rotate_left
        · show Act.put _ (some 28) _ = _
          simp only [Act.put, List.setIfInBounds_toArray, List.set_cons_zero, List.set_cons_succ, i64_w, i32_w]
          rfl
        clear st hHeld
        refine one_ (i := 12) (N := some 34) #[true, true, true, true, true, true, true, true, true, true, true, true, true, false, false, false] rfl rfl (by kernel_rfl) (by decide) (fun K hK => ?_)
        refine value_ (w1 := ?_) (v := ?_) (by rfl) rfl ?_ ?_
        rotate_left 2
        · go_simp
          constructor
          · rfl
          · rfl
        have st : Hid (Below w5.heap.size w5 (w5.alloc (.cells #[.string val] 9))) := hid (below_alloc (Below.refl _ _) _)
        have hg2 : Hid ((w5.alloc (.cells #[.string val] 9)).heap[w5.heap.size]? = some (.cells #[.string val] 9 (0, 0))) := hid Array.getElem?_push_size
        refine hK.out _ _ (below_then hs.out hs.out.size st.out) (fun hHeld => ?_)
        clear hK K
        refine norm_ (a' := ?_) ?_ ?_
        rotate_left
        · show Act.put _ (some 34) _ = _
          simp only [Act.put, List.setIfInBounds_toArray, List.set_cons_zero, List.set_cons_succ, i64_w, i32_w]
          rfl
        generalize w5.alloc (.cells #[.string val] 9) = vB2 at st hg2 hHeld ⊢
        replace hg1 := hid ((st.out.block _ (blk_lt hg1.out)).trans hg1.out)
        replace q2 := hid (Kd.C_below q2.out st.out)
        replace hr := hid ((st.out.block _ (blk_lt hr.out)).trans hr.out)
        replace tt := hid (below_then tt.out tt.out.size st.out)
        replace hs := hid (below_then hs.out hs.out.size st.out)
        clear st hHeld
        refine one_ (i := 13) (N := some 35) #[true, true, true, true, true, true, true, true, true, true, true, true, true, true, false, false] rfl rfl (by kernel_rfl) (by decide) (fun K hK => ?_)
        refine goes_ Try.func47 (by kernel_rfl) rfl #[.slice A2 vals.length c2, .int .i64 (p : Int), .int .i64 0, .slice (some ⟨w5.heap.size, 0, none⟩) 1 1] (by rfl) rfl rfl (by (try simp only [List.map_toArray, List.map_cons, List.map_nil]); first | done | rfl) ?_
        refine (laidS vals [val] p 0 A2 (some ⟨w5.heap.size, 0, none⟩) c2 1 vB2 (Kd.C_below h2.out tt.out) l2.out (C_row1 hg2.out) hpl (by decide) hv (by show 1 ≤ _; decide)).mono ?_
        rintro r w6 ⟨A6, c6, rfl, p1, p2, p3, p4⟩
        rw [hR2.out] at p1 p2 ⊢
        replace p1 := hid p1
        replace p2 := hid p2
        have st := hid p3
        have p5 := hid (fun ad (e : A6 = some ad) => (show ad.block ≠ w.heap.size + 1 from by have h1 := p4 ad e; have h2 : w.heap.size + 1 < vB2.heap.size := blk_lt hr.out; omega))
        clear p3 p4
        replace hg1 := hid ((st.out.block _ (blk_lt hg1.out)).trans hg1.out)
        replace hg2 := hid ((st.out.block _ (blk_lt hg2.out)).trans hg2.out)
        replace q2 := hid (Kd.C_below q2.out st.out)
        replace hr := hid ((st.out.block _ (blk_lt hr.out)).trans hr.out)
        replace tt := hid (below_then tt.out tt.out.size st.out)
        replace hs := hid (below_then hs.out hs.out.size st.out)
        refine ⟨_, rfl, ?_⟩
        refine hK.out _ _ hs.out (fun hHeld => ?_)
        clear hK K
        refine norm_ (a' := ?_) ?_ ?_
        rotate_left
        · show Act.put _ (some 35) _ = _
          simp only [Act.put, List.setIfInBounds_toArray, List.set_cons_zero, List.set_cons_succ, i64_w, i32_w]
          rfl
        clear st hHeld
        refine pure_ (i := 14) (N := some 36) (v := ?_) (a' := ?_) #[true, true, true, true, true, true, true, true, true, true, true, true, true, true, true, false] rfl rfl (by kernel_rfl) (fun _ _ _ h => h) (Or.inl ⟨by rfl, ?_⟩) ?_ ?_
        rotate_left
        · intro w'
          go_simp
          with_reducible rfl
        rotate_left
        · simp only [Act.put, List.setIfInBounds_toArray, List.set_cons_zero, List.set_cons_succ, i64_w, i32_w]
          rfl
        have y0 : w6.cell? ⟨w.heap.size + 1, 0, none⟩ = some (.bool false) := (blk_cell hr.out 0).trans rfl
        have z0 := blk_frozen (w := w6) hr.out 0
        have y1 : w6.cell? ⟨w.heap.size + 1, 1, none⟩ = some (.slice none 0 0) := (blk_cell hr.out 1).trans rfl
        have z1 := blk_frozen (w := w6) hr.out 1
        have y2 : w6.cell? ⟨w.heap.size + 1, 2, none⟩ = some (.slice none 0 0) := (blk_cell hr.out 2).trans rfl
        have z2 := blk_frozen (w := w6) hr.out 2
        have y3 : w6.cell? ⟨w.heap.size + 1, 3, none⟩ = some (.slice none 0 0) := (blk_cell hr.out 3).trans rfl
        have z3 := blk_frozen (w := w6) hr.out 3
        refine last_ (i := 15) (N := none) #[true, true, true, true, true, true, true, true, true, true, true, true, true, true, true, true] rfl rfl (by kernel_rfl) (by decide) (fun K hK => ?_)
        refine skip_ (w1 := ?_) (by rfl) rfl ?_ ?_
        rotate_left
        · go_simp
          with_reducible rfl
        refine hK.out _ _ ?_
        clear hK K
        refine done_ (by kernel_rfl) ?_
        have hZ := hid (blk_set (blk_set (blk_set (blk_set hr.out 0 (.bool true)) 1 (.slice A5 r1.length c5)) 2 (.slice A6 r2.length c6)) 3 (.slice none 0 0))
        have hb := hid (below_set (below_set (below_set (below_set tt.out (Nat.le_succ _) 0 (.bool true)) (Nat.le_succ _) 1 (.slice A5 r1.length c5)) (Nat.le_succ _) 2 (.slice A6 r2.length c6)) (Nat.le_succ _) 3 (.slice none 0 0))
        go_wp2_with fail
        refine bodyPost_ret (results_cell_row rfl _ _ (w.heap.size + 1) 29 #[.bool true, .slice A5 r1.length c5, .slice A6 r2.length c6, .slice none 0 0] (0, 0) _ rfl hZ.out Try.underlying29 rfl (by kernel_rfl)) rfl ?_
        have hq := hid (C_far1 (C_far1 (C_far1 (C_far1 q2.out q5.out 0 (.bool true)) q5.out 1 (.slice A5 r1.length c5)) q5.out 2 (.slice A6 r2.length c6)) q5.out 3 (.slice none 0 0))
        have hp := hid (C_far1 (C_far1 (C_far1 (C_far1 p2.out p5.out 0 (.bool true)) p5.out 1 (.slice A5 r1.length c5)) p5.out 2 (.slice A6 r2.length c6)) p5.out 3 (.slice none 0 0))
        exact ⟨_, rfl, At.mk_ (x := ⟨true, r1, r2, []⟩) hq.out q1.out hp.out p1.out (Kd.C_nil _ _) (Nat.le_refl _), hb.out⟩
      · refine value_ (w1 := ?_) (v := ?_) (by rfl) rfl ?_ ?_
        rotate_left 2
        · go_simp
          constructor
          · rfl
          · rfl
        have st : Hid (Below vB1.heap.size vB1 (vB1.alloc (.cells #[.string val] 9))) := hid (below_alloc (Below.refl _ _) _)
        have hg2 : Hid ((vB1.alloc (.cells #[.string val] 9)).heap[vB1.heap.size]? = some (.cells #[.string val] 9 (0, 0))) := hid Array.getElem?_push_size
        refine hK.out _ _ (below_then hs.out hs.out.size st.out) (fun hHeld => ?_)
        clear hK K
        refine norm_ (a' := ?_) ?_ ?_
        rotate_left
        · show Act.put _ (some 34) _ = _
          simp only [Act.put, List.setIfInBounds_toArray, List.set_cons_zero, List.set_cons_succ, i64_w, i32_w]
          rfl
        generalize vB1.alloc (.cells #[.string val] 9) = vB2 at st hg2 hHeld ⊢
        replace hg1 := hid ((st.out.block _ (blk_lt hg1.out)).trans hg1.out)
        replace hr := hid ((st.out.block _ (blk_lt hr.out)).trans hr.out)
        replace tt := hid (below_then tt.out tt.out.size st.out)
        replace hs := hid (below_then hs.out hs.out.size st.out)
        clear st hHeld
        refine one_ (i := 6) (N := some 28) #[true, true, true, true, true, true, true, true, true, true, true, true, true, false, false, false] rfl rfl (by kernel_rfl) (by decide) (fun K hK => ?_)
        refine goes_ Try.func35 (by kernel_rfl) rfl #[.slice A1 keys.length c1, .int .i64 (p : Int), .int .i64 0, .slice (some ⟨w3.heap.size, 0, none⟩) 1 1] (by rfl) rfl rfl (by (try simp only [List.map_toArray, List.map_cons, List.map_nil]); first | done | rfl) ?_
        refine (laidK keys [key] p 0 A1 (some ⟨w3.heap.size, 0, none⟩) c1 1 vB2 (Kd.C_below h1.out tt.out) l1.out (C_row1 hg1.out) hpl (by decide) hk (by show 1 ≤ _; decide)).mono ?_
        rintro r w5 ⟨A5, c5, rfl, q1, q2, q3, q4⟩
        rw [hR1.out] at q1 q2 ⊢
        replace q1 := hid q1
        replace q2 := hid q2
        have st := hid q3
        have q5 := hid (fun ad (e : A5 = some ad) => (show ad.block ≠ w.heap.size + 1 from by have h1 := q4 ad e; have h2 : w.heap.size + 1 < vB2.heap.size := blk_lt hr.out; omega))
        clear q3 q4
        replace hg1 := hid ((st.out.block _ (blk_lt hg1.out)).trans hg1.out)
        replace hg2 := hid ((st.out.block _ (blk_lt hg2.out)).trans hg2.out)
        replace hr := hid ((st.out.block _ (blk_lt hr.out)).trans hr.out)
        replace tt := hid (below_then tt.out tt.out.size st.out)
        replace hs := hid (below_then hs.out hs.out.size st.out)
        refine ⟨_, rfl, ?_⟩
        refine hK.out _ _ hs.out (fun hHeld => ?_)
        clear hK K
        refine norm_ (a' := ?_) ?_ ?_
        rotate_left
        · show Act.put _ (some 28) _ = _
          simp only [Act.put, List.setIfInBounds_toArray, List.set_cons_zero, List.set_cons_succ, i64_w, i32_w]
          rfl
        clear st hHeld
        refine one_ (i := 13) (N := some 35) #[true, true, true, true, true, true, true, true, true, true, true, true, true, true, false, false] rfl rfl (by kernel_rfl) (by decide) (fun K hK => ?_)
        refine goes_ Try.func47 (by kernel_rfl) rfl #[.slice A2 vals.length c2, .int .i64 (p : Int), .int .i64 0, .slice (some ⟨vB1.heap.size, 0, none⟩) 1 1] (by rfl) rfl rfl (by (try simp only [List.map_toArray, List.map_cons, List.map_nil]); first | done | rfl) ?_
        refine (laidS vals [val] p 0 A2 (some ⟨vB1.heap.size, 0, none⟩) c2 1 w5 (Kd.C_below h2.out tt.out) l2.out (C_row1 hg2.out) hpl (by decide) hv (by show 1 ≤ _; decide)).mono ?_
        rintro r w6 ⟨A6, c6, rfl, p1, p2, p3, p4⟩
        rw [hR2.out] at p1 p2 ⊢
        replace p1 := hid p1
        replace p2 := hid p2
        have st := hid p3
        have p5 := hid (fun ad (e : A6 = some ad) => (show ad.block ≠ w.heap.size + 1 from by have h1 := p4 ad e; have h2 : w.heap.size + 1 < w5.heap.size := blk_lt hr.out; omega))
        clear p3 p4
        replace hg1 := hid ((st.out.block _ (blk_lt hg1.out)).trans hg1.out)
        replace hg2 := hid ((st.out.block _ (blk_lt hg2.out)).trans hg2.out)
        replace q2 := hid (Kd.C_below q2.out st.out)
        replace hr := hid ((st.out.block _ (blk_lt hr.out)).trans hr.out)
        replace tt := hid (below_then tt.out tt.out.size st.out)
        replace hs := hid (below_then hs.out hs.out.size st.out)
        refine ⟨_, rfl, ?_⟩
        refine hK.out _ _ hs.out (fun hHeld => ?_)
        clear hK K
        refine norm_ (a' := ?_) ?_ ?_
        rotate_left
        · show Act.put _ (some 35) _ = _
          simp only [Act.put, List.setIfInBounds_toArray, List.set_cons_zero, List.set_cons_succ, i64_w, i32_w]
          rfl
        clear st hHeld
        refine pure_ (i := 14) (N := some 36) (v := ?_) (a' := ?_) #[true, true, true, true, true, true, true, true, true, true, true, true, true, true, true, false] rfl rfl (by kernel_rfl) (fun _ _ _ h => h) (Or.inl ⟨by rfl, ?_⟩) ?_ ?_
        rotate_left
        · intro w'
          go_simp
          with_reducible rfl
        rotate_left
        · simp only [Act.put, List.setIfInBounds_toArray, List.set_cons_zero, List.set_cons_succ, i64_w, i32_w]
          rfl
        have y0 : w6.cell? ⟨w.heap.size + 1, 0, none⟩ = some (.bool false) := (blk_cell hr.out 0).trans rfl
        have z0 := blk_frozen (w := w6) hr.out 0
        have y1 : w6.cell? ⟨w.heap.size + 1, 1, none⟩ = some (.slice none 0 0) := (blk_cell hr.out 1).trans rfl
        have z1 := blk_frozen (w := w6) hr.out 1
        have y2 : w6.cell? ⟨w.heap.size + 1, 2, none⟩ = some (.slice none 0 0) := (blk_cell hr.out 2).trans rfl
        have z2 := blk_frozen (w := w6) hr.out 2
        have y3 : w6.cell? ⟨w.heap.size + 1, 3, none⟩ = some (.slice none 0 0) := (blk_cell hr.out 3).trans rfl
        have z3 := blk_frozen (w := w6) hr.out 3
        refine last_ (i := 15) (N := none) #[true, true, true, true, true, true, true, true, true, true, true, true, true, true, true, true] rfl rfl (by kernel_rfl) (by decide) (fun K hK => ?_)
        refine skip_ (w1 := ?_) (by rfl) rfl ?_ ?_
        rotate_left
        · go_simp
          with_reducible rfl
        refine hK.out _ _ ?_
        clear hK K
        refine done_ (by kernel_rfl) ?_
        have hZ := hid (blk_set (blk_set (blk_set (blk_set hr.out 0 (.bool true)) 1 (.slice A5 r1.length c5)) 2 (.slice A6 r2.length c6)) 3 (.slice none 0 0))
        have hb := hid (below_set (below_set (below_set (below_set tt.out (Nat.le_succ _) 0 (.bool true)) (Nat.le_succ _) 1 (.slice A5 r1.length c5)) (Nat.le_succ _) 2 (.slice A6 r2.length c6)) (Nat.le_succ _) 3 (.slice none 0 0))
        go_wp2_with fail
        refine bodyPost_ret (results_cell_row rfl _ _ (w.heap.size + 1) 29 #[.bool true, .slice A5 r1.length c5, .slice A6 r2.length c6, .slice none 0 0] (0, 0) _ rfl hZ.out Try.underlying29 rfl (by kernel_rfl)) rfl ?_
        have hq := hid (C_far1 (C_far1 (C_far1 (C_far1 q2.out q5.out 0 (.bool true)) q5.out 1 (.slice A5 r1.length c5)) q5.out 2 (.slice A6 r2.length c6)) q5.out 3 (.slice none 0 0))
        have hp := hid (C_far1 (C_far1 (C_far1 (C_far1 p2.out p5.out 0 (.bool true)) p5.out 1 (.slice A5 r1.length c5)) p5.out 2 (.slice A6 r2.length c6)) p5.out 3 (.slice none 0 0))
        exact ⟨_, rfl, At.mk_ (x := ⟨true, r1, r2, []⟩) hq.out q1.out hp.out p1.out (Kd.C_nil _ _) (Nat.le_refl _), hb.out⟩
    · refine value_ (w1 := ?_) (v := ?_) (by rfl) rfl ?_ ?_
      rotate_left 2
      · go_simp
        constructor
        · rfl
        · rfl
      have st : Hid (Below w3.heap.size w3 ((w3.alloc (.cells #[.string val] 9)).drew)) := hid (below_drew (below_alloc (Below.refl _ _) _))
      have hg2 : Hid (((w3.alloc (.cells #[.string val] 9)).drew).heap[w3.heap.size]? = some (.cells #[.string val] 9 (0, 0))) := hid Array.getElem?_push_size
      refine hK.out _ _ (below_then hs.out hs.out.size st.out) (fun hHeld => ?_)
      clear hK K
      refine norm_ (a' := ?_) ?_ ?_
      rotate_left
      · show Act.put _ (some 34) _ = _
        simp only [Act.put, List.setIfInBounds_toArray, List.set_cons_zero, List.set_cons_succ, i64_w, i32_w]
        rfl
      generalize (w3.alloc (.cells #[.string val] 9)).drew = vB2 at st hg2 hHeld ⊢
      replace hr := hid ((st.out.block _ (blk_lt hr.out)).trans hr.out)
      replace tt := hid (below_then tt.out tt.out.size st.out)
      replace hs := hid (below_then hs.out hs.out.size st.out)
      clear st hHeld
      refine one_ (i := 5) (N := some 27) #[true, true, true, true, true, true, false, true, true, true, true, true, true, false, false, false] rfl rfl (by kernel_rfl) (by decide) (fun K hK => ?_)
      refine value_ (w1 := ?_) (v := ?_) (by rfl) rfl ?_ ?_
      rotate_left 2
      · go_simp
        constructor
        · rfl
        · rfl
      have st : Hid (Below vB2.heap.size vB2 (vB2.alloc (.cells #[.int .u64 key] 23))) := hid (below_alloc (Below.refl _ _) _)
      have hg1 : Hid ((vB2.alloc (.cells #[.int .u64 key] 23)).heap[vB2.heap.size]? = some (.cells #[.int .u64 key] 23 (0, 0))) := hid Array.getElem?_push_size
      refine hK.out _ _ (below_then hs.out hs.out.size st.out) (fun hHeld => ?_)
      clear hK K
      refine norm_ (a' := ?_) ?_ ?_
      rotate_left
      · show Act.put _ (some 27) _ = _
        simp only [Act.put, List.setIfInBounds_toArray, List.set_cons_zero, List.set_cons_succ, i64_w, i32_w]
        rfl
      generalize vB2.alloc (.cells #[.int .u64 key] 23) = vB1 at st hg1 hHeld ⊢
      replace hg2 := hid ((st.out.block _ (blk_lt hg2.out)).trans hg2.out)
      replace hr := hid ((st.out.block _ (blk_lt hr.out)).trans hr.out)
      replace tt := hid (below_then tt.out tt.out.size st.out)
      replace hs := hid (below_then hs.out hs.out.size st.out)
      clear st hHeld
      refine one_ (i := 6) (N := some 28) #[true, true, true, true, true, true, true, true, true, true, true, true, true, false, false, false] rfl rfl (by kernel_rfl) (by decide) (fun K hK => ?_)
      refine goes_ Try.func35 (by kernel_rfl) rfl #[.slice A1 keys.length c1, .int .i64 (p : Int), .int .i64 0, .slice (some ⟨vB2.heap.size, 0, none⟩) 1 1] (by rfl) rfl rfl (by (try simp only [List.map_toArray, List.map_cons, List.map_nil]); first | done | rfl) ?_
      refine (laidK keys [key] p 0 A1 (some ⟨vB2.heap.size, 0, none⟩) c1 1 vB1 (Kd.C_below h1.out tt.out) l1.out (C_row1 hg1.out) hpl (by decide) hk (by show 1 ≤ _; decide)).mono ?_
      rintro r w5 ⟨A5, c5, rfl, q1, q2, q3, q4⟩
      rw [hR1.out] at q1 q2 ⊢
      replace q1 := hid q1
      replace q2 := hid q2
      have st := hid q3
      have q5 := hid (fun ad (e : A5 = some ad) => (show ad.block ≠ w.heap.size + 1 from by have h1 := q4 ad e; have h2 : w.heap.size + 1 < vB1.heap.size := blk_lt hr.out; omega))
      clear q3 q4
      replace hg1 := hid ((st.out.block _ (blk_lt hg1.out)).trans hg1.out)
      replace hg2 := hid ((st.out.block _ (blk_lt hg2.out)).trans hg2.out)
      replace hr := hid ((st.out.block _ (blk_lt hr.out)).trans hr.out)
      replace tt := hid (below_then tt.out tt.out.size st.out)
      replace hs := hid (below_then hs.out hs.out.size st.out)
      refine ⟨_, rfl, ?_⟩
      refine hK.out _ _ hs.out (fun hHeld => ?_)
      clear hK K
      refine norm_ (a' := ?_) ?_ ?_
      rotate_left
      · show Act.put _ (some 28) _ = _
        simp only [Act.put, List.setIfInBounds_toArray, List.set_cons_zero, List.set_cons_succ, i64_w, i32_w]
        rfl
      clear st hHeld
      refine one_ (i := 13) (N := some 35) #[true, true, true, true, true, true, true, true, true, true, true, true, true, true, false, false] rfl rfl (by kernel_rfl) (by decide) (fun K hK => ?_)
      refine goes_ Try.func47 (by kernel_rfl) rfl #[.slice A2 vals.length c2, .int .i64 (p : Int), .int .i64 0, .slice (some ⟨w3.heap.size, 0, none⟩) 1 1] (by rfl) rfl rfl (by (try simp only [List.map_toArray, List.map_cons, List.map_nil]); first | done | rfl) ?_
      refine (laidS vals [val] p 0 A2 (some ⟨w3.heap.size, 0, none⟩) c2 1 w5 (Kd.C_below h2.out tt.out) l2.out (C_row1 hg2.out) hpl (by decide) hv (by show 1 ≤ _; decide)).mono ?_
      rintro r w6 ⟨A6, c6, rfl, p1, p2, p3, p4⟩
      rw [hR2.out] at p1 p2 ⊢
      replace p1 := hid p1
      replace p2 := hid p2
      have st := hid p3
      have p5 := hid (fun ad (e : A6 = some ad) => (show ad.block ≠ w.heap.size + 1 from by have h1 := p4 ad e; have h2 : w.heap.size + 1 < w5.heap.size := blk_lt hr.out; omega))
      clear p3 p4
      replace hg1 := hid ((st.out.block _ (blk_lt hg1.out)).trans hg1.out)
      replace hg2 := hid ((st.out.block _ (blk_lt hg2.out)).trans hg2.out)
      replace q2 := hid (Kd.C_below q2.out st.out)
      replace hr := hid ((st.out.block _ (blk_lt hr.out)).trans hr.out)
      replace tt := hid (below_then tt.out tt.out.size st.out)
      replace hs := hid (below_then hs.out hs.out.size st.out)
      refine ⟨_, rfl, ?_⟩
      refine hK.out _ _ hs.out (fun hHeld => ?_)
      clear hK K
      refine norm_ (a' := ?_) ?_ ?_
      rotate_left
      · show Act.put _ (some 35) _ = _
        simp only [Act.put, List.setIfInBounds_toArray, List.set_cons_zero, List.set_cons_succ, i64_w, i32_w]
        rfl
      clear st hHeld
      refine pure_ (i := 14) (N := some 36) (v := ?_) (a' := ?_) #[true, true, true, true, true, true, true, true, true, true, true, true, true, true, true, false] rfl rfl (by kernel_rfl) (fun _ _ _ h => h) (Or.inl ⟨by rfl, ?_⟩) ?_ ?_
      rotate_left
      · intro w'
        go_simp
        with_reducible rfl
      rotate_left
      · simp only [Act.put, List.setIfInBounds_toArray, List.set_cons_zero, List.set_cons_succ, i64_w, i32_w]
        rfl
      have y0 : w6.cell? ⟨w.heap.size + 1, 0, none⟩ = some (.bool false) := (blk_cell hr.out 0).trans rfl
      have z0 := blk_frozen (w := w6) hr.out 0
      have y1 : w6.cell? ⟨w.heap.size + 1, 1, none⟩ = some (.slice none 0 0) := (blk_cell hr.out 1).trans rfl
      have z1 := blk_frozen (w := w6) hr.out 1
      have y2 : w6.cell? ⟨w.heap.size + 1, 2, none⟩ = some (.slice none 0 0) := (blk_cell hr.out 2).trans rfl
      have z2 := blk_frozen (w := w6) hr.out 2
      have y3 : w6.cell? ⟨w.heap.size + 1, 3, none⟩ = some (.slice none 0 0) := (blk_cell hr.out 3).trans rfl
      have z3 := blk_frozen (w := w6) hr.out 3
      refine last_ (i := 15) (N := none) #[true, true, true, true, true, true, true, true, true, true, true, true, true, true, true, true] rfl rfl (by kernel_rfl) (by decide) (fun K hK => ?_)
      refine skip_ (w1 := ?_) (by rfl) rfl ?_ ?_
      rotate_left
      · go_simp
        with_reducible rfl
      refine hK.out _ _ ?_
      clear hK K
      refine done_ (by kernel_rfl) ?_
      have hZ := hid (blk_set (blk_set (blk_set (blk_set hr.out 0 (.bool true)) 1 (.slice A5 r1.length c5)) 2 (.slice A6 r2.length c6)) 3 (.slice none 0 0))
      have hb := hid (below_set (below_set (below_set (below_set tt.out (Nat.le_succ _) 0 (.bool true)) (Nat.le_succ _) 1 (.slice A5 r1.length c5)) (Nat.le_succ _) 2 (.slice A6 r2.length c6)) (Nat.le_succ _) 3 (.slice none 0 0))
      go_wp2_with fail
      refine bodyPost_ret (results_cell_row rfl _ _ (w.heap.size + 1) 29 #[.bool true, .slice A5 r1.length c5, .slice A6 r2.length c6, .slice none 0 0] (0, 0) _ rfl hZ.out Try.underlying29 rfl (by kernel_rfl)) rfl ?_
      have hq := hid (C_far1 (C_far1 (C_far1 (C_far1 q2.out q5.out 0 (.bool true)) q5.out 1 (.slice A5 r1.length c5)) q5.out 2 (.slice A6 r2.length c6)) q5.out 3 (.slice none 0 0))
      have hp := hid (C_far1 (C_far1 (C_far1 (C_far1 p2.out p5.out 0 (.bool true)) p5.out 1 (.slice A5 r1.length c5)) p5.out 2 (.slice A6 r2.length c6)) p5.out 3 (.slice none 0 0))
      exact ⟨_, rfl, At.mk_ (x := ⟨true, r1, r2, []⟩) hq.out q1.out hp.out p1.out (Kd.C_nil _ _) (Nat.le_refl _), hb.out⟩
set_option maxHeartbeats 1000000 in
set_option maxRecDepth 100000 in
theorem hang_walk (x : Nd) (v : Value) (i key kid : Int) (w : World) (H : At w v x) (hk0 : x.keys.length ≤ 1099511627775) (hi : x.kids.length ≤ 1099511627776) :
    Calls Try.prog 13 #[v, .int .i64 i, .int .u64 key, .int .i64 kid] w fun e w' => ∃ v', e = .returned v' ∧ At w' v' (hangF x i key kid) ∧ Below w.heap.size w w' := by
  obtain ⟨A1, c1, A2, c2, A3, c3, rfl, ⟨h1, l1⟩, ⟨h2, l2⟩, ⟨h3, l3⟩⟩ := H
  obtain ⟨leaf, keys, vals, kids⟩ := x
  simp only at h1 l1 h2 l2 h3 l3 ⊢
  have hx : Hid (((w.alloc (.cells #[.bool leaf, .slice A1 keys.length c1, .slice A2 vals.length c2, .slice A3 kids.length c3] 29)).alloc (.cells #[.bool false, .slice none 0 0, .slice none 0 0, .slice none 0 0] 29)).heap[w.heap.size]? = some (.cells #[.bool leaf, .slice A1 keys.length c1, .slice A2 vals.length c2, .slice A3 kids.length c3] 29 (0, 0))) := hid (alloc2_fst w _ _)
  have hr : Hid (((w.alloc (.cells #[.bool leaf, .slice A1 keys.length c1, .slice A2 vals.length c2, .slice A3 kids.length c3] 29)).alloc (.cells #[.bool false, .slice none 0 0, .slice none 0 0, .slice none 0 0] 29)).heap[w.heap.size + 1]? = some (.cells #[.bool false, .slice none 0 0, .slice none 0 0, .slice none 0 0] 29 (0, 0))) := hid (alloc2_snd w _ _)
  have hB := hid (below_alloc (below_alloc (Below.refl w.heap.size w) (.cells #[.bool leaf, .slice A1 keys.length c1, .slice A2 vals.length c2, .slice A3 kids.length c3] 29)) (.cells #[.bool false, .slice none 0 0, .slice none 0 0, .slice none 0 0] 29))
  simp only at hk0 hi
  have hk : keys.length ≤ 1099511627776 := by omega
  replace h1 := hid h1
  replace h2 := hid h2
  replace h3 := hid h3
  replace l1 := hid l1
  replace l2 := hid l2
  replace l3 := hid l3
  rw [hangF]
  simp only
  by_cases hc : ¬ leaf = false
  · obtain rfl : leaf = true := by simpa using hc
    rw [if_neg (by simp)]
    go_enter Try.func13, Try.ntmps13
    go_upto_region 1 with fail
    generalize (w.alloc (.cells #[.bool true, .slice A1 keys.length c1, .slice A2 vals.length c2, .slice A3 kids.length c3] 29)).alloc (.cells #[.bool false, .slice none 0 0, .slice none 0 0, .slice none 0 0] 29) = w1 at *
    have d0 : w1.cell? ⟨w.heap.size, 0, none⟩ = some (.bool true) := (blk_cell hx.out 0).trans rfl
    have d1 : w1.cell? ⟨w.heap.size, 1, none⟩ = some (.slice A1 keys.length c1) := (blk_cell hx.out 1).trans rfl
    have d2 : w1.cell? ⟨w.heap.size, 2, none⟩ = some (.slice A2 vals.length c2) := (blk_cell hx.out 2).trans rfl
    have d3 : w1.cell? ⟨w.heap.size, 3, none⟩ = some (.slice A3 kids.length c3) := (blk_cell hx.out 3).trans rfl
    have e0 : w1.cell? ⟨w.heap.size + 1, 0, none⟩ = some (.bool false) := (blk_cell hr.out 0).trans rfl
    have f0 := blk_frozen (w := w1) hr.out 0
    have e1 : w1.cell? ⟨w.heap.size + 1, 1, none⟩ = some (.slice none 0 0) := (blk_cell hr.out 1).trans rfl
    have f1 := blk_frozen (w := w1) hr.out 1
    have e2 : w1.cell? ⟨w.heap.size + 1, 2, none⟩ = some (.slice none 0 0) := (blk_cell hr.out 2).trans rfl
    have f2 := blk_frozen (w := w1) hr.out 2
    have e3 : w1.cell? ⟨w.heap.size + 1, 3, none⟩ = some (.slice none 0 0) := (blk_cell hr.out 3).trans rfl
    have f3 := blk_frozen (w := w1) hr.out 3
    have hZ := hid (blk_set (blk_set (blk_set (blk_set hr.out 0 (.bool true)) 1 (.slice A1 keys.length c1)) 2 (.slice A2 vals.length c2)) 3 (.slice A3 kids.length c3))
    have hb := hid (below_set (below_set (below_set (below_set hB.out (Nat.le_succ _) 0 (.bool true)) (Nat.le_succ _) 1 (.slice A1 keys.length c1)) (Nat.le_succ _) 2 (.slice A2 vals.length c2)) (Nat.le_succ _) 3 (.slice A3 kids.length c3))
    go_wp2_with fail
    refine bodyPost_ret (results_cell_row rfl _ _ (w.heap.size + 1) 29 #[.bool true, .slice A1 keys.length c1, .slice A2 vals.length c2, .slice A3 kids.length c3] (0, 0) _ rfl hZ.out Try.underlying29 rfl (by kernel_rfl)) rfl ?_
    exact ⟨_, rfl, At.mk_ (x := ⟨true, keys, vals, kids⟩) (Kd.C_below h1.out hb.out) l1.out (Kd.C_below h2.out hb.out) l2.out (Kd.C_below h3.out hb.out) l3.out, hb.out⟩
  obtain rfl : leaf = false := by simpa using hc
  clear hc
  by_cases g1 : ¬ (0 ≤ i ∧ i ≤ (keys.length : Int))
  · rw [if_neg (by simpa using g1)]
    have g2 : i < 0 ∨ (¬ i < 0 ∧ (keys.length : Int) < i) := by omega
    clear hk hk0 hi g1
    rcases g2 with g2 | ⟨g2, g3⟩
    · go_enter Try.func13, Try.ntmps13
      go_upto_region 1 with fail
      generalize (w.alloc (.cells #[.bool false, .slice A1 keys.length c1, .slice A2 vals.length c2, .slice A3 kids.length c3] 29)).alloc (.cells #[.bool false, .slice none 0 0, .slice none 0 0, .slice none 0 0] 29) = w1 at *
      have d0 : w1.cell? ⟨w.heap.size, 0, none⟩ = some (.bool false) := (blk_cell hx.out 0).trans rfl
      have d1 : w1.cell? ⟨w.heap.size, 1, none⟩ = some (.slice A1 keys.length c1) := (blk_cell hx.out 1).trans rfl
      have d2 : w1.cell? ⟨w.heap.size, 2, none⟩ = some (.slice A2 vals.length c2) := (blk_cell hx.out 2).trans rfl
      have d3 : w1.cell? ⟨w.heap.size, 3, none⟩ = some (.slice A3 kids.length c3) := (blk_cell hx.out 3).trans rfl
      have e0 : w1.cell? ⟨w.heap.size + 1, 0, none⟩ = some (.bool false) := (blk_cell hr.out 0).trans rfl
      have f0 := blk_frozen (w := w1) hr.out 0
      have e1 : w1.cell? ⟨w.heap.size + 1, 1, none⟩ = some (.slice none 0 0) := (blk_cell hr.out 1).trans rfl
      have f1 := blk_frozen (w := w1) hr.out 1
      have e2 : w1.cell? ⟨w.heap.size + 1, 2, none⟩ = some (.slice none 0 0) := (blk_cell hr.out 2).trans rfl
      have f2 := blk_frozen (w := w1) hr.out 2
      have e3 : w1.cell? ⟨w.heap.size + 1, 3, none⟩ = some (.slice none 0 0) := (blk_cell hr.out 3).trans rfl
      have f3 := blk_frozen (w := w1) hr.out 3
      have hZ := hid (blk_set (blk_set (blk_set (blk_set hr.out 0 (.bool false)) 1 (.slice A1 keys.length c1)) 2 (.slice A2 vals.length c2)) 3 (.slice A3 kids.length c3))
      have hb := hid (below_set (below_set (below_set (below_set hB.out (Nat.le_succ _) 0 (.bool false)) (Nat.le_succ _) 1 (.slice A1 keys.length c1)) (Nat.le_succ _) 2 (.slice A2 vals.length c2)) (Nat.le_succ _) 3 (.slice A3 kids.length c3))
      go_wp2_with fail
      refine bodyPost_ret (results_cell_row rfl _ _ (w.heap.size + 1) 29 #[.bool false, .slice A1 keys.length c1, .slice A2 vals.length c2, .slice A3 kids.length c3] (0, 0) _ rfl hZ.out Try.underlying29 rfl (by kernel_rfl)) rfl ?_
      exact ⟨_, rfl, At.mk_ (x := ⟨false, keys, vals, kids⟩) (Kd.C_below h1.out hb.out) l1.out (Kd.C_below h2.out hb.out) l2.out (Kd.C_below h3.out hb.out) l3.out, hb.out⟩
    · go_enter Try.func13, Try.ntmps13
      go_upto_region 1 with fail
      generalize (w.alloc (.cells #[.bool false, .slice A1 keys.length c1, .slice A2 vals.length c2, .slice A3 kids.length c3] 29)).alloc (.cells #[.bool false, .slice none 0 0, .slice none 0 0, .slice none 0 0] 29) = w1 at *
      have d0 : w1.cell? ⟨w.heap.size, 0, none⟩ = some (.bool false) := (blk_cell hx.out 0).trans rfl
      have d1 : w1.cell? ⟨w.heap.size, 1, none⟩ = some (.slice A1 keys.length c1) := (blk_cell hx.out 1).trans rfl
      have d2 : w1.cell? ⟨w.heap.size, 2, none⟩ = some (.slice A2 vals.length c2) := (blk_cell hx.out 2).trans rfl
      have d3 : w1.cell? ⟨w.heap.size, 3, none⟩ = some (.slice A3 kids.length c3) := (blk_cell hx.out 3).trans rfl
      have e0 : w1.cell? ⟨w.heap.size + 1, 0, none⟩ = some (.bool false) := (blk_cell hr.out 0).trans rfl
      have f0 := blk_frozen (w := w1) hr.out 0
      have e1 : w1.cell? ⟨w.heap.size + 1, 1, none⟩ = some (.slice none 0 0) := (blk_cell hr.out 1).trans rfl
      have f1 := blk_frozen (w := w1) hr.out 1
      have e2 : w1.cell? ⟨w.heap.size + 1, 2, none⟩ = some (.slice none 0 0) := (blk_cell hr.out 2).trans rfl
      have f2 := blk_frozen (w := w1) hr.out 2
      have e3 : w1.cell? ⟨w.heap.size + 1, 3, none⟩ = some (.slice none 0 0) := (blk_cell hr.out 3).trans rfl
      have f3 := blk_frozen (w := w1) hr.out 3
      have hZ := hid (blk_set (blk_set (blk_set (blk_set hr.out 0 (.bool false)) 1 (.slice A1 keys.length c1)) 2 (.slice A2 vals.length c2)) 3 (.slice A3 kids.length c3))
      have hb := hid (below_set (below_set (below_set (below_set hB.out (Nat.le_succ _) 0 (.bool false)) (Nat.le_succ _) 1 (.slice A1 keys.length c1)) (Nat.le_succ _) 2 (.slice A2 vals.length c2)) (Nat.le_succ _) 3 (.slice A3 kids.length c3))
      go_wp2_with fail
      refine bodyPost_ret (results_cell_row rfl _ _ (w.heap.size + 1) 29 #[.bool false, .slice A1 keys.length c1, .slice A2 vals.length c2, .slice A3 kids.length c3] (0, 0) _ rfl hZ.out Try.underlying29 rfl (by kernel_rfl)) rfl ?_
      exact ⟨_, rfl, At.mk_ (x := ⟨false, keys, vals, kids⟩) (Kd.C_below h1.out hb.out) l1.out (Kd.C_below h2.out hb.out) l2.out (Kd.C_below h3.out hb.out) l3.out, hb.out⟩
  · replace g1 := Classical.not_not.1 g1
    rw [if_pos ⟨rfl, g1⟩]
    obtain ⟨k, rfl⟩ := Int.eq_ofNat_of_zero_le g1.1
    rw [Int.toNat_natCast]
    have g2 : ¬ ((k : Int) < 0) := by omega
    have g3 : ¬ ((keys.length : Int) < k) := by omega
    have gk : k ≤ 1099511627776 := by omega
    have hk1 : k + 1 ≤ 1099511627776 := by omega
    have gw : wrap64 ((k : Int) + 1) = ((k + 1 : Nat) : Int) := by unfold wrap64; omega
    obtain ⟨r1, hR1⟩ : ∃ r, keys.take k ++ [key] ++ keys.drop (k + 0) = r := ⟨_, rfl⟩
    obtain ⟨r2, hR2⟩ : ∃ r, kids.take (k + 1) ++ [kid] ++ kids.drop (k + 1 + 0) = r := ⟨_, rfl⟩
    rw [show laidF keys [key] k 0 = r1 from hR1, show laidF kids [kid] (k + 1) 0 = r2 from hR2]
    replace hR1 := hid hR1
    replace hR2 := hid hR2
    go_enter Try.func13, Try.ntmps13
    go_upto_region 1 with fail
    generalize (w.alloc (.cells #[.bool false, .slice A1 keys.length c1, .slice A2 vals.length c2, .slice A3 kids.length c3] 29)).alloc (.cells #[.bool false, .slice none 0 0, .slice none 0 0, .slice none 0 0] 29) = w1 at *
    have d0 : w1.cell? ⟨w.heap.size, 0, none⟩ = some (.bool false) := (blk_cell hx.out 0).trans rfl
    have d1 : w1.cell? ⟨w.heap.size, 1, none⟩ = some (.slice A1 keys.length c1) := (blk_cell hx.out 1).trans rfl
    have d2 : w1.cell? ⟨w.heap.size, 2, none⟩ = some (.slice A2 vals.length c2) := (blk_cell hx.out 2).trans rfl
    have d3 : w1.cell? ⟨w.heap.size, 3, none⟩ = some (.slice A3 kids.length c3) := (blk_cell hx.out 3).trans rfl
    have e0 : w1.cell? ⟨w.heap.size + 1, 0, none⟩ = some (.bool false) := (blk_cell hr.out 0).trans rfl
    have f0 := blk_frozen (w := w1) hr.out 0
    have e1 : w1.cell? ⟨w.heap.size + 1, 1, none⟩ = some (.slice none 0 0) := (blk_cell hr.out 1).trans rfl
    have f1 := blk_frozen (w := w1) hr.out 1
    have e2 : w1.cell? ⟨w.heap.size + 1, 2, none⟩ = some (.slice none 0 0) := (blk_cell hr.out 2).trans rfl
    have f2 := blk_frozen (w := w1) hr.out 2
    have e3 : w1.cell? ⟨w.heap.size + 1, 3, none⟩ = some (.slice none 0 0) := (blk_cell hr.out 3).trans rfl
    have f3 := blk_frozen (w := w1) hr.out 3
    go_upto_region 3 with fail
    have tt := hB
    have hs := hid (Below.refl w1.heap.size w1)
    refine start_ (n := 15) (S := fun w' => Below w1.heap.size w1 w') (ds := [14]) #[false, false, false, false, false, false, false, false, false, false, false, false, false, false, false] (by kernel_rfl) rfl rfl (below_drew (Below.refl _ _)) (fun hHeld => ?_)
    refine pure_ (i := 0) (N := some 23) (v := ?_) (a' := ?_) #[true, false, false, false, false, false, false, false, false, false, false, false, false, false, false] rfl rfl (by kernel_rfl) (fun _ _ _ h => h) (Or.inl ⟨by rfl, ?_⟩) ?_ ?_
    rotate_left
    · intro w'
      go_simp
      with_reducible rfl
    rotate_left
    · simp only [Act.put, List.setIfInBounds_toArray, List.set_cons_zero, List.set_cons_succ, i64_w, i32_w]
      rfl
    refine take_ (i := 1) (N := some 24) (v := ?_) (a' := ?_) #[true, true, false, false, false, false, false, false, false, false, false, false, false, false, false] rfl rfl (by kernel_rfl) (fun _ _ _ h => h) (Or.inl ⟨by rfl, ?_⟩) hHeld ?_ ?_
    rotate_left
    · rintro w' hb'
      have dd := pw_cell_below hb' d1
      go_simp
      with_reducible rfl
    rotate_left
    · simp only [Act.put, List.setIfInBounds_toArray, List.set_cons_zero, List.set_cons_succ, i64_w, i32_w]
      rfl
    refine pure_ (i := 2) (N := some 25) (v := ?_) (a' := ?_) #[true, true, true, false, false, false, false, false, false, false, false, false, false, false, false] rfl rfl (by kernel_rfl) (fun _ _ _ h => h) (Or.inl ⟨by rfl, ?_⟩) ?_ ?_
    rotate_left
    · intro w'
      go_simp
      with_reducible rfl
    rotate_left
    · simp only [Act.put, List.setIfInBounds_toArray, List.set_cons_zero, List.set_cons_succ, i64_w, i32_w]
      rfl
    refine pure_ (i := 3) (N := some 26) (v := ?_) (a' := ?_) #[true, true, true, true, false, false, false, false, false, false, false, false, false, false, false] rfl rfl (by kernel_rfl) (fun _ _ _ h => h) (Or.inl ⟨by rfl, ?_⟩) ?_ ?_
    rotate_left
    · intro w'
      go_simp
      with_reducible rfl
    rotate_left
    · simp only [Act.put, List.setIfInBounds_toArray, List.set_cons_zero, List.set_cons_succ, i64_w, i32_w]
      rfl
    refine pure_ (i := 6) (N := some 29) (v := ?_) (a' := ?_) #[true, true, true, true, false, false, true, false, false, false, false, false, false, false, false] rfl rfl (by kernel_rfl) (fun _ _ _ h => h) (Or.inl ⟨by rfl, ?_⟩) ?_ ?_
    rotate_left
    · intro w'
      go_simp
      with_reducible rfl
    rotate_left
    · simp only [Act.put, List.setIfInBounds_toArray, List.set_cons_zero, List.set_cons_succ, i64_w, i32_w]
      rfl
    refine take_ (i := 7) (N := some 30) (v := ?_) (a' := ?_) #[true, true, true, true, false, false, true, true, false, false, false, false, false, false, false] rfl rfl (by kernel_rfl) (fun _ _ _ h => h) (Or.inl ⟨by rfl, ?_⟩) hHeld ?_ ?_
    rotate_left
    · rintro w' hb'
      have dd := pw_cell_below hb' d3
      go_simp
      with_reducible rfl
    rotate_left
    · simp only [Act.put, List.setIfInBounds_toArray, List.set_cons_zero, List.set_cons_succ, i64_w, i32_w]
      rfl
    refine pure_ (i := 8) (N := some 31) (v := ?_) (a' := ?_) #[true, true, true, true, false, false, true, true, true, false, false, false, false, false, false] rfl rfl (by kernel_rfl) (fun _ _ _ h => h) (Or.inl ⟨by rfl, ?_⟩) ?_ ?_
    rotate_left
    · intro w'
      go_simp
      with_reducible rfl
    rotate_left
    · simp only [Act.put, List.setIfInBounds_toArray, List.set_cons_zero, List.set_cons_succ, i64_w, i32_w]
      rfl
    refine pure_ (i := 9) (N := some 32) (v := ?_) (a' := ?_) #[true, true, true, true, false, false, true, true, true, true, false, false, false, false, false] rfl rfl (by kernel_rfl) (fun _ _ _ h => h) (Or.inl ⟨by rfl, ?_⟩) ?_ ?_
    rotate_left
    · intro w'
      go_simp
      with_reducible rfl
    rotate_left
    · simp only [Act.put, List.setIfInBounds_toArray, List.set_cons_zero, List.set_cons_succ, i64_w, i32_w]
      rfl
    refine pure_ (i := 10) (N := some 33) (v := ?_) (a' := ?_) #[true, true, true, true, false, false, true, true, true, true, true, false, false, false, false] rfl rfl (by kernel_rfl) (fun _ _ _ h => h) (Or.inl ⟨by rfl, ?_⟩) ?_ ?_
    rotate_left
    · intro w'
      go_simp
      with_reducible rfl
    rotate_left
    · simp only [Act.put, List.setIfInBounds_toArray, List.set_cons_zero, List.set_cons_succ, i64_w, i32_w]
      rfl
    clear hHeld
    refine two_ (i := 4) (j := 11) (Ni := some 27) (Nj := some 34) #[true, true, true, true, true, false, true, true, true, true, true, false, false, false, false] #[true, true, true, true, false, false, true, true, true, true, true, true, false, false, false] rfl rfl rfl rfl (by kernel_rfl) (by decide) (by decide) (fun K hK => ?_) (fun K hK => ?_)
    · refine value_ (w1 := ?_) (v := ?_) (by rfl) rfl ?_ ?_
      rotate_left 2
      · go_simp
        constructor
        · rfl
        · rfl
      have st : Hid (Below w1.heap.size w1 ((w1.alloc (.cells #[.int .u64 key] 23)).drew)) := hid (below_drew (below_alloc (Below.refl _ _) _))
      have hg1 : Hid (((w1.alloc (.cells #[.int .u64 key] 23)).drew).heap[w1.heap.size]? = some (.cells #[.int .u64 key] 23 (0, 0))) := hid Array.getElem?_push_size
      refine hK.out _ _ (below_then hs.out hs.out.size st.out) (fun hHeld => ?_)
      clear hK K
      refine norm_ (a' := ?_) ?_ ?_
      rotate_left
      · show Act.put _ (some 27) _ = _
        simp only [Act.put, List.setIfInBounds_toArray, List.set_cons_zero, List.set_cons_succ, i64_w, i32_w]
        rfl
      generalize (w1.alloc (.cells #[.int .u64 key] 23)).drew = vB1 at st hg1 hHeld ⊢
      replace hr := hid ((st.out.block _ (blk_lt hr.out)).trans hr.out)
      replace tt := hid (below_then tt.out tt.out.size st.out)
      replace hs := hid (below_then hs.out hs.out.size st.out)
      clear st hHeld
      refine two_ (i := 5) (j := 11) (Ni := some 28) (Nj := some 34) #[true, true, true, true, true, true, true, true, true, true, true, false, false, false, false] #[true, true, true, true, true, false, true, true, true, true, true, true, false, false, false] rfl rfl rfl rfl (by kernel_rfl) (by decide) (by decide) (fun K hK => ?_) (fun K hK => ?_)
      · refine goes_ Try.func35 (by kernel_rfl) rfl #[.slice A1 keys.length c1, .int .i64 (k : Int), .int .i64 0, .slice (some ⟨w1.heap.size, 0, none⟩) 1 1] (by rfl) rfl rfl (by (try simp only [List.map_toArray, List.map_cons, List.map_nil]); first | done | rfl) ?_
        refine (laidK keys [key] k 0 A1 (some ⟨w1.heap.size, 0, none⟩) c1 1 vB1 (Kd.C_below h1.out tt.out) l1.out (C_row1 hg1.out) gk (by decide) hk (by show 1 ≤ _; decide)).mono ?_
        rintro r w5 ⟨A5, c5, rfl, q1, q2, q3, q4⟩
        rw [hR1.out] at q1 q2 ⊢
        replace q1 := hid q1
        replace q2 := hid q2
        have st := hid q3
        have q5 := hid (fun ad (e : A5 = some ad) => (show ad.block ≠ w.heap.size + 1 from by have h1 := q4 ad e; have h2 : w.heap.size + 1 < vB1.heap.size := blk_lt hr.out; omega))
        clear q3 q4
        replace hg1 := hid ((st.out.block _ (blk_lt hg1.out)).trans hg1.out)
        replace hr := hid ((st.out.block _ (blk_lt hr.out)).trans hr.out)
        replace tt := hid (below_then tt.out tt.out.size st.out)
        replace hs := hid (below_then hs.out hs.out.size st.out)
        refine ⟨_, rfl, ?_⟩
        refine hK.out _ _ hs.out (fun hHeld => ?_)
        clear hK K
        refine norm_ (a' := ?_) ?_ ?_
        rotate_left
        · show Act.put _ (some 28) _ = _
          simp only [Act.put, List.setIfInBounds_toArray, List.set_cons_zero, List.set_cons_succ, i64_w, i32_w]
          rfl
        clear st hHeld
        refine one_ (i := 11) (N := some 34) #[true, true, true, true, true, true, true, true, true, true, true, true, false, false, false] rfl rfl (by kernel_rfl) (by decide) (fun K hK => ?_)
        refine value_ (w1 := ?_) (v := ?_) (by rfl) rfl ?_ ?_
        rotate_left 2
        · go_simp
          constructor
          · rfl
          · rfl
        have st : Hid (Below w5.heap.size w5 (w5.alloc (.cells #[.int .i64 kid] 3))) := hid (below_alloc (Below.refl _ _) _)
        have hg2 : Hid ((w5.alloc (.cells #[.int .i64 kid] 3)).heap[w5.heap.size]? = some (.cells #[.int .i64 kid] 3 (0, 0))) := hid Array.getElem?_push_size
        refine hK.out _ _ (below_then hs.out hs.out.size st.out) (fun hHeld => ?_)
        clear hK K
        refine norm_ (a' := ?_) ?_ ?_
        rotate_left
        · show Act.put _ (some 34) _ = _
          simp only [Act.put, List.setIfInBounds_toArray, List.set_cons_zero, List.set_cons_succ, i64_w, i32_w]
          rfl
        generalize w5.alloc (.cells #[.int .i64 kid] 3) = vB2 at st hg2 hHeld ⊢
        replace hg1 := hid ((st.out.block _ (blk_lt hg1.out)).trans hg1.out)
        replace q2 := hid (Kd.C_below q2.out st.out)
        replace hr := hid ((st.out.block _ (blk_lt hr.out)).trans hr.out)
        replace tt := hid (below_then tt.out tt.out.size st.out)
        replace hs := hid (below_then hs.out hs.out.size st.out)
        clear st hHeld
        refine one_ (i := 12) (N := some 35) #[true, true, true, true, true, true, true, true, true, true, true, true, true, false, false] rfl rfl (by kernel_rfl) (by decide) (fun K hK => ?_)
        refine goes_ Try.func36 (by kernel_rfl) rfl #[.slice A3 kids.length c3, .int .i64 (wrap64 ((k : Int) + 1)), .int .i64 0, .slice (some ⟨w5.heap.size, 0, none⟩) 1 1] (by rfl) rfl rfl (by (try simp only [List.map_toArray, List.map_cons, List.map_nil]); first | done | rfl) ?_
        rw [gw]
        refine (laidI kids [kid] (k + 1) 0 A3 (some ⟨w5.heap.size, 0, none⟩) c3 1 vB2 (Kd.C_below h3.out tt.out) l3.out (C_row1 hg2.out) hk1 (by decide) hi (by show 1 ≤ _; decide)).mono ?_
        rintro r w6 ⟨A6, c6, rfl, p1, p2, p3, p4⟩
        rw [hR2.out] at p1 p2 ⊢
        replace p1 := hid p1
        replace p2 := hid p2
        have st := hid p3
        have p5 := hid (fun ad (e : A6 = some ad) => (show ad.block ≠ w.heap.size + 1 from by have h1 := p4 ad e; have h2 : w.heap.size + 1 < vB2.heap.size := blk_lt hr.out; omega))
        clear p3 p4
        replace hg1 := hid ((st.out.block _ (blk_lt hg1.out)).trans hg1.out)
        replace hg2 := hid ((st.out.block _ (blk_lt hg2.out)).trans hg2.out)
        replace q2 := hid (Kd.C_below q2.out st.out)
        replace hr := hid ((st.out.block _ (blk_lt hr.out)).trans hr.out)
        replace tt := hid (below_then tt.out tt.out.size st.out)
        replace hs := hid (below_then hs.out hs.out.size st.out)
        refine ⟨_, rfl, ?_⟩
        refine hK.out _ _ hs.out (fun hHeld => ?_)
        clear hK K
        refine norm_ (a' := ?_) ?_ ?_
        rotate_left
        · show Act.put _ (some 35) _ = _
          simp only [Act.put, List.setIfInBounds_toArray, List.set_cons_zero, List.set_cons_succ, i64_w, i32_w]
          rfl
        clear st hHeld
        refine pure_ (i := 13) (N := some 36) (v := ?_) (a' := ?_) #[true, true, true, true, true, true, true, true, true, true, true, true, true, true, false] rfl rfl (by kernel_rfl) (fun _ _ _ h => h) (Or.inl ⟨by rfl, ?_⟩) ?_ ?_
        rotate_left
        · intro w'
          go_simp
          with_reducible rfl
        rotate_left
        · simp only [Act.put, List.setIfInBounds_toArray, List.set_cons_zero, List.set_cons_succ, i64_w, i32_w]
          rfl
        have y0 : w6.cell? ⟨w.heap.size + 1, 0, none⟩ = some (.bool false) := (blk_cell hr.out 0).trans rfl
        have z0 := blk_frozen (w := w6) hr.out 0
        have y1 : w6.cell? ⟨w.heap.size + 1, 1, none⟩ = some (.slice none 0 0) := (blk_cell hr.out 1).trans rfl
        have z1 := blk_frozen (w := w6) hr.out 1
        have y2 : w6.cell? ⟨w.heap.size + 1, 2, none⟩ = some (.slice none 0 0) := (blk_cell hr.out 2).trans rfl
        have z2 := blk_frozen (w := w6) hr.out 2
        have y3 : w6.cell? ⟨w.heap.size + 1, 3, none⟩ = some (.slice none 0 0) := (blk_cell hr.out 3).trans rfl
        have z3 := blk_frozen (w := w6) hr.out 3
        refine last_ (i := 14) (N := none) #[true, true, true, true, true, true, true, true, true, true, true, true, true, true, true] rfl rfl (by kernel_rfl) (by decide) (fun K hK => ?_)
        refine skip_ (w1 := ?_) (by rfl) rfl ?_ ?_
        rotate_left
        · go_simp
          with_reducible rfl
        refine hK.out _ _ ?_
        clear hK K
        refine done_ (by kernel_rfl) ?_
        have hZ := hid (blk_set (blk_set (blk_set (blk_set hr.out 0 (.bool false)) 1 (.slice A5 r1.length c5)) 2 (.slice none 0 0)) 3 (.slice A6 r2.length c6))
        have hb := hid (below_set (below_set (below_set (below_set tt.out (Nat.le_succ _) 0 (.bool false)) (Nat.le_succ _) 1 (.slice A5 r1.length c5)) (Nat.le_succ _) 2 (.slice none 0 0)) (Nat.le_succ _) 3 (.slice A6 r2.length c6))
        go_wp2_with fail
        refine bodyPost_ret (results_cell_row rfl _ _ (w.heap.size + 1) 29 #[.bool false, .slice A5 r1.length c5, .slice none 0 0, .slice A6 r2.length c6] (0, 0) _ rfl hZ.out Try.underlying29 rfl (by kernel_rfl)) rfl ?_
        have hq := hid (C_far1 (C_far1 (C_far1 (C_far1 q2.out q5.out 0 (.bool false)) q5.out 1 (.slice A5 r1.length c5)) q5.out 2 (.slice none 0 0)) q5.out 3 (.slice A6 r2.length c6))
        have hp := hid (C_far1 (C_far1 (C_far1 (C_far1 p2.out p5.out 0 (.bool false)) p5.out 1 (.slice A5 r1.length c5)) p5.out 2 (.slice none 0 0)) p5.out 3 (.slice A6 r2.length c6))
        exact ⟨_, rfl, At.mk_ (x := ⟨false, r1, [], r2⟩) hq.out q1.out (Kd.C_nil _ _) (Nat.le_refl _) hp.out p1.out, hb.out⟩
      · refine value_ (w1 := ?_) (v := ?_) (by rfl) rfl ?_ ?_
        rotate_left 2
        · go_simp
          constructor
          · rfl
          · rfl
        have st : Hid (Below vB1.heap.size vB1 (vB1.alloc (.cells #[.int .i64 kid] 3))) := hid (below_alloc (Below.refl _ _) _)
        have hg2 : Hid ((vB1.alloc (.cells #[.int .i64 kid] 3)).heap[vB1.heap.size]? = some (.cells #[.int .i64 kid] 3 (0, 0))) := hid Array.getElem?_push_size
        refine hK.out _ _ (below_then hs.out hs.out.size st.out) (fun hHeld => ?_)
        clear hK K
        refine norm_ (a' := ?_) ?_ ?_
        rotate_left
        · show Act.put _ (some 34) _ = _
          simp only [Act.put, List.setIfInBounds_toArray, List.set_cons_zero, List.set_cons_succ, i64_w, i32_w]
          rfl
        generalize vB1.alloc (.cells #[.int .i64 kid] 3) = vB2 at st hg2 hHeld ⊢
        replace hg1 := hid ((st.out.block _ (blk_lt hg1.out)).trans hg1.out)
        replace hr := hid ((st.out.block _ (blk_lt hr.out)).trans hr.out)
        replace tt := hid (below_then tt.out tt.out.size st.out)
        replace hs := hid (below_then hs.out hs.out.size st.out)
        clear st hHeld
        refine one_ (i := 5) (N := some 28) #[true, true, true, true, true, true, true, true, true, true, true, true, false, false, false] rfl rfl (by kernel_rfl) (by decide) (fun K hK => ?_)
        refine goes_ Try.func35 (by kernel_rfl) rfl #[.slice A1 keys.length c1, .int .i64 (k : Int), .int .i64 0, .slice (some ⟨w1.heap.size, 0, none⟩) 1 1] (by rfl) rfl rfl (by (try simp only [List.map_toArray, List.map_cons, List.map_nil]); first | done | rfl) ?_
        refine (laidK keys [key] k 0 A1 (some ⟨w1.heap.size, 0, none⟩) c1 1 vB2 (Kd.C_below h1.out tt.out) l1.out (C_row1 hg1.out) gk (by decide) hk (by show 1 ≤ _; decide)).mono ?_
        rintro r w5 ⟨A5, c5, rfl, q1, q2, q3, q4⟩
        rw [hR1.out] at q1 q2 ⊢
        replace q1 := hid q1
        replace q2 := hid q2
        have st := hid q3
        have q5 := hid (fun ad (e : A5 = some ad) => (show ad.block ≠ w.heap.size + 1 from by have h1 := q4 ad e; have h2 : w.heap.size + 1 < vB2.heap.size := blk_lt hr.out; omega))
        clear q3 q4
        replace hg1 := hid ((st.out.block _ (blk_lt hg1.out)).trans hg1.out)
        replace hg2 := hid ((st.out.block _ (blk_lt hg2.out)).trans hg2.out)
        replace hr := hid ((st.out.block _ (blk_lt hr.out)).trans hr.out)
        replace tt := hid (below_then tt.out tt.out.size st.out)
        replace hs := hid (below_then hs.out hs.out.size st.out)
        refine ⟨_, rfl, ?_⟩
        refine hK.out _ _ hs.out (fun hHeld => ?_)
        clear hK K
        refine norm_ (a' := ?_) ?_ ?_
        rotate_left
        · show Act.put _ (some 28) _ = _
          simp only [Act.put, List.setIfInBounds_toArray, List.set_cons_zero, List.set_cons_succ, i64_w, i32_w]
          rfl
        clear st hHeld
        refine one_ (i := 12) (N := some 35) #[true, true, true, true, true, true, true, true, true, true, true, true, true, false, false] rfl rfl (by kernel_rfl) (by decide) (fun K hK => ?_)
        refine goes_ Try.func36 (by kernel_rfl) rfl #[.slice A3 kids.length c3, .int .i64 (wrap64 ((k : Int) + 1)), .int .i64 0, .slice (some ⟨vB1.heap.size, 0, none⟩) 1 1] (by rfl) rfl rfl (by (try simp only [List.map_toArray, List.map_cons, List.map_nil]); first | done | rfl) ?_
        rw [gw]
        refine (laidI kids [kid] (k + 1) 0 A3 (some ⟨vB1.heap.size, 0, none⟩) c3 1 w5 (Kd.C_below h3.out tt.out) l3.out (C_row1 hg2.out) hk1 (by decide) hi (by show 1 ≤ _; decide)).mono ?_
        rintro r w6 ⟨A6, c6, rfl, p1, p2, p3, p4⟩
        rw [hR2.out] at p1 p2 ⊢
        replace p1 := hid p1
        replace p2 := hid p2
        have st := hid p3
        have p5 := hid (fun ad (e : A6 = some ad) => (show ad.block ≠ w.heap.size + 1 from by have h1 := p4 ad e; have h2 : w.heap.size + 1 < w5.heap.size := blk_lt hr.out; omega))
        clear p3 p4
        replace hg1 := hid ((st.out.block _ (blk_lt hg1.out)).trans hg1.out)
        replace hg2 := hid ((st.out.block _ (blk_lt hg2.out)).trans hg2.out)
        replace q2 := hid (Kd.C_below q2.out st.out)
        replace hr := hid ((st.out.block _ (blk_lt hr.out)).trans hr.out)
        replace tt := hid (below_then tt.out tt.out.size st.out)
        replace hs := hid (below_then hs.out hs.out.size st.out)
        refine ⟨_, rfl, ?_⟩
        refine hK.out _ _ hs.out (fun hHeld => ?_)
        clear hK K
        refine norm_ (a' := ?_) ?_ ?_
        rotate_left
        · show Act.put _ (some 35) _ = _
          simp only [Act.put, List.setIfInBounds_toArray, List.set_cons_zero, List.set_cons_succ, i64_w, i32_w]
          rfl
        clear st hHeld
        refine pure_ (i := 13) (N := some 36) (v := ?_) (a' := ?_) #[true, true, true, true, true, true, true, true, true, true, true, true, true, true, false] rfl rfl (by kernel_rfl) (fun _ _ _ h => h) (Or.inl ⟨by rfl, ?_⟩) ?_ ?_
        rotate_left
        · intro w'
          go_simp
          with_reducible rfl
        rotate_left
        · simp only [Act.put, List.setIfInBounds_toArray, List.set_cons_zero, List.set_cons_succ, i64_w, i32_w]
          rfl
        have y0 : w6.cell? ⟨w.heap.size + 1, 0, none⟩ = some (.bool false) := (blk_cell hr.out 0).trans rfl
        have z0 := blk_frozen (w := w6) hr.out 0
        have y1 : w6.cell? ⟨w.heap.size + 1, 1, none⟩ = some (.slice none 0 0) := (blk_cell hr.out 1).trans rfl
        have z1 := blk_frozen (w := w6) hr.out 1
        have y2 : w6.cell? ⟨w.heap.size + 1, 2, none⟩ = some (.slice none 0 0) := (blk_cell hr.out 2).trans rfl
        have z2 := blk_frozen (w := w6) hr.out 2
        have y3 : w6.cell? ⟨w.heap.size + 1, 3, none⟩ = some (.slice none 0 0) := (blk_cell hr.out 3).trans rfl
        have z3 := blk_frozen (w := w6) hr.out 3
        refine last_ (i := 14) (N := none) #[true, true, true, true, true, true, true, true, true, true, true, true, true, true, true] rfl rfl (by kernel_rfl) (by decide) (fun K hK => ?_)
        refine skip_ (w1 := ?_) (by rfl) rfl ?_ ?_
        rotate_left
        · go_simp
          with_reducible rfl
        refine hK.out _ _ ?_
        clear hK K
        refine done_ (by kernel_rfl) ?_
        have hZ := hid (blk_set (blk_set (blk_set (blk_set hr.out 0 (.bool false)) 1 (.slice A5 r1.length c5)) 2 (.slice none 0 0)) 3 (.slice A6 r2.length c6))
        have hb := hid (below_set (below_set (below_set (below_set tt.out (Nat.le_succ _) 0 (.bool false)) (Nat.le_succ _) 1 (.slice A5 r1.length c5)) (Nat.le_succ _) 2 (.slice none 0 0)) (Nat.le_succ _) 3 (.slice A6 r2.length c6))
        go_wp2_with fail
        refine bodyPost_ret (results_cell_row rfl _ _ (w.heap.size + 1) 29 #[.bool false, .slice A5 r1.length c5, .slice none 0 0, .slice A6 r2.length c6] (0, 0) _ rfl hZ.out Try.underlying29 rfl (by kernel_rfl)) rfl ?_
        have hq := hid (C_far1 (C_far1 (C_far1 (C_far1 q2.out q5.out 0 (.bool false)) q5.out 1 (.slice A5 r1.length c5)) q5.out 2 (.slice none 0 0)) q5.out 3 (.slice A6 r2.length c6))
        have hp := hid (C_far1 (C_far1 (C_far1 (C_far1 p2.out p5.out 0 (.bool false)) p5.out 1 (.slice A5 r1.length c5)) p5.out 2 (.slice none 0 0)) p5.out 3 (.slice A6 r2.length c6))
        exact ⟨_, rfl, At.mk_ (x := ⟨false, r1, [], r2⟩) hq.out q1.out (Kd.C_nil _ _) (Nat.le_refl _) hp.out p1.out, hb.out⟩
    · refine value_ (w1 := ?_) (v := ?_) (by rfl) rfl ?_ ?_
      rotate_left 2
      · go_simp
        constructor
        · rfl
        · rfl
      have st : Hid (Below w1.heap.size w1 ((w1.alloc (.cells #[.int .i64 kid] 3)).drew)) := hid (below_drew (below_alloc (Below.refl _ _) _))
      have hg2 : Hid (((w1.alloc (.cells #[.int .i64 kid] 3)).drew).heap[w1.heap.size]? = some (.cells #[.int .i64 kid] 3 (0, 0))) := hid Array.getElem?_push_size
      refine hK.out _ _ (below_then hs.out hs.out.size st.out) (fun hHeld => ?_)
      clear hK K
      refine norm_ (a' := ?_) ?_ ?_
      rotate_left
      · show Act.put _ (some 34) _ = _
        simp only [Act.put, List.setIfInBounds_toArray, List.set_cons_zero, List.set_cons_succ, i64_w, i32_w]
        rfl
      generalize (w1.alloc (.cells #[.int .i64 kid] 3)).drew = vB2 at st hg2 hHeld ⊢
      replace hr := hid ((st.out.block _ (blk_lt hr.out)).trans hr.out)
      replace tt := hid (below_then tt.out tt.out.size st.out)
      replace hs := hid (below_then hs.out hs.out.size st.out)
      clear st hHeld
      refine one_ (i := 4) (N := some 27) #[true, true, true, true, true, false, true, true, true, true, true, true, false, false, false] rfl rfl (by kernel_rfl) (by decide) (fun K hK => ?_)
      refine value_ (w1 := ?_) (v := ?_) (by rfl) rfl ?_ ?_
      rotate_left 2
      · go_simp
        constructor
        · rfl
        · rfl
      have st : Hid (Below vB2.heap.size vB2 (vB2.alloc (.cells #[.int .u64 key] 23))) := hid (below_alloc (Below.refl _ _) _)
      have hg1 : Hid ((vB2.alloc (.cells #[.int .u64 key] 23)).heap[vB2.heap.size]? = some (.cells #[.int .u64 key] 23 (0, 0))) := hid Array.getElem?_push_size
      refine hK.out _ _ (below_then hs.out hs.out.size st.out) (fun hHeld => ?_)
      clear hK K
      refine norm_ (a' := ?_) ?_ ?_
      rotate_left
      · show Act.put _ (some 27) _ = _
        simp only [Act.put, List.setIfInBounds_toArray, List.set_cons_zero, List.set_cons_succ, i64_w, i32_w]
        rfl
      generalize vB2.alloc (.cells #[.int .u64 key] 23) = vB1 at st hg1 hHeld ⊢
      replace hg2 := hid ((st.out.block _ (blk_lt hg2.out)).trans hg2.out)
      replace hr := hid ((st.out.block _ (blk_lt hr.out)).trans hr.out)
      replace tt := hid (below_then tt.out tt.out.size st.out)
      replace hs := hid (below_then hs.out hs.out.size st.out)
      clear st hHeld
      refine one_ (i := 5) (N := some 28) #[true, true, true, true, true, true, true, true, true, true, true, true, false, false, false] rfl rfl (by kernel_rfl) (by decide) (fun K hK => ?_)
      refine goes_ Try.func35 (by kernel_rfl) rfl #[.slice A1 keys.length c1, .int .i64 (k : Int), .int .i64 0, .slice (some ⟨vB2.heap.size, 0, none⟩) 1 1] (by rfl) rfl rfl (by (try simp only [List.map_toArray, List.map_cons, List.map_nil]); first | done | rfl) ?_
      refine (laidK keys [key] k 0 A1 (some ⟨vB2.heap.size, 0, none⟩) c1 1 vB1 (Kd.C_below h1.out tt.out) l1.out (C_row1 hg1.out) gk (by decide) hk (by show 1 ≤ _; decide)).mono ?_
      rintro r w5 ⟨A5, c5, rfl, q1, q2, q3, q4⟩
      rw [hR1.out] at q1 q2 ⊢
      replace q1 := hid q1
      replace q2 := hid q2
      have st := hid q3
      have q5 := hid (fun ad (e : A5 = some ad) => (show ad.block ≠ w.heap.size + 1 from by have h1 := q4 ad e; have h2 : w.heap.size + 1 < vB1.heap.size := blk_lt hr.out; omega))
      clear q3 q4
      replace hg1 := hid ((st.out.block _ (blk_lt hg1.out)).trans hg1.out)
      replace hg2 := hid ((st.out.block _ (blk_lt hg2.out)).trans hg2.out)
      replace hr := hid ((st.out.block _ (blk_lt hr.out)).trans hr.out)
      replace tt := hid (below_then tt.out tt.out.size st.out)
      replace hs := hid (below_then hs.out hs.out.size st.out)
      refine ⟨_, rfl, ?_⟩
      refine hK.out _ _ hs.out (fun hHeld => ?_)
      clear hK K
      refine norm_ (a' := ?_) ?_ ?_
      rotate_left
      · show Act.put _ (some 28) _ = _
        simp only [Act.put, List.setIfInBounds_toArray, List.set_cons_zero, List.set_cons_succ, i64_w, i32_w]
        rfl
      clear st hHeld
      refine one_ (i := 12) (N := some 35) #[true, true, true, true, true, true, true, true, true, true, true, true, true, false, false] rfl rfl (by kernel_rfl) (by decide) (fun K hK => ?_)
      refine goes_ Try.func36 (by kernel_rfl) rfl #[.slice A3 kids.length c3, .int .i64 (wrap64 ((k : Int) + 1)), .int .i64 0, .slice (some ⟨w1.heap.size, 0, none⟩) 1 1] (by rfl) rfl rfl (by (try simp only [List.map_toArray, List.map_cons, List.map_nil]); first | done | rfl) ?_
      rw [gw]
      refine (laidI kids [kid] (k + 1) 0 A3 (some ⟨w1.heap.size, 0, none⟩) c3 1 w5 (Kd.C_below h3.out tt.out) l3.out (C_row1 hg2.out) hk1 (by decide) hi (by show 1 ≤ _; decide)).mono ?_
      rintro r w6 ⟨A6, c6, rfl, p1, p2, p3, p4⟩
      rw [hR2.out] at p1 p2 ⊢
      replace p1 := hid p1
      replace p2 := hid p2
      have st := hid p3
      have p5 := hid (fun ad (e : A6 = some ad) => (show ad.block ≠ w.heap.size + 1 from by have h1 := p4 ad e; have h2 : w.heap.size + 1 < w5.heap.size := blk_lt hr.out; omega))
      clear p3 p4
      replace hg1 := hid ((st.out.block _ (blk_lt hg1.out)).trans hg1.out)
      replace hg2 := hid ((st.out.block _ (blk_lt hg2.out)).trans hg2.out)
      replace q2 := hid (Kd.C_below q2.out st.out)
      replace hr := hid ((st.out.block _ (blk_lt hr.out)).trans hr.out)
      replace tt := hid (below_then tt.out tt.out.size st.out)
      replace hs := hid (below_then hs.out hs.out.size st.out)
      refine ⟨_, rfl, ?_⟩
      refine hK.out _ _ hs.out (fun hHeld => ?_)
      clear hK K
      refine norm_ (a' := ?_) ?_ ?_
      rotate_left
      · show Act.put _ (some 35) _ = _
        simp only [Act.put, List.setIfInBounds_toArray, List.set_cons_zero, List.set_cons_succ, i64_w, i32_w]
        rfl
      clear st hHeld
      refine pure_ (i := 13) (N := some 36) (v := ?_) (a' := ?_) #[true, true, true, true, true, true, true, true, true, true, true, true, true, true, false] rfl rfl (by kernel_rfl) (fun _ _ _ h => h) (Or.inl ⟨by rfl, ?_⟩) ?_ ?_
      rotate_left
      · intro w'
        go_simp
        with_reducible rfl
      rotate_left
      · simp only [Act.put, List.setIfInBounds_toArray, List.set_cons_zero, List.set_cons_succ, i64_w, i32_w]
        rfl
      have y0 : w6.cell? ⟨w.heap.size + 1, 0, none⟩ = some (.bool false) := (blk_cell hr.out 0).trans rfl
      have z0 := blk_frozen (w := w6) hr.out 0
      have y1 : w6.cell? ⟨w.heap.size + 1, 1, none⟩ = some (.slice none 0 0) := (blk_cell hr.out 1).trans rfl
      have z1 := blk_frozen (w := w6) hr.out 1
      have y2 : w6.cell? ⟨w.heap.size + 1, 2, none⟩ = some (.slice none 0 0) := (blk_cell hr.out 2).trans rfl
      have z2 := blk_frozen (w := w6) hr.out 2
      have y3 : w6.cell? ⟨w.heap.size + 1, 3, none⟩ = some (.slice none 0 0) := (blk_cell hr.out 3).trans rfl
      have z3 := blk_frozen (w := w6) hr.out 3
      refine last_ (i := 14) (N := none) #[true, true, true, true, true, true, true, true, true, true, true, true, true, true, true] rfl rfl (by kernel_rfl) (by decide) (fun K hK => ?_)
      refine skip_ (w1 := ?_) (by rfl) rfl ?_ ?_
      rotate_left
      · go_simp
        with_reducible rfl
      refine hK.out _ _ ?_
      clear hK K
      refine done_ (by kernel_rfl) ?_
      have hZ := hid (blk_set (blk_set (blk_set (blk_set hr.out 0 (.bool false)) 1 (.slice A5 r1.length c5)) 2 (.slice none 0 0)) 3 (.slice A6 r2.length c6))
      have hb := hid (below_set (below_set (below_set (below_set tt.out (Nat.le_succ _) 0 (.bool false)) (Nat.le_succ _) 1 (.slice A5 r1.length c5)) (Nat.le_succ _) 2 (.slice none 0 0)) (Nat.le_succ _) 3 (.slice A6 r2.length c6))
      go_wp2_with fail
      refine bodyPost_ret (results_cell_row rfl _ _ (w.heap.size + 1) 29 #[.bool false, .slice A5 r1.length c5, .slice none 0 0, .slice A6 r2.length c6] (0, 0) _ rfl hZ.out Try.underlying29 rfl (by kernel_rfl)) rfl ?_
      have hq := hid (C_far1 (C_far1 (C_far1 (C_far1 q2.out q5.out 0 (.bool false)) q5.out 1 (.slice A5 r1.length c5)) q5.out 2 (.slice none 0 0)) q5.out 3 (.slice A6 r2.length c6))
      have hp := hid (C_far1 (C_far1 (C_far1 (C_far1 p2.out p5.out 0 (.bool false)) p5.out 1 (.slice A5 r1.length c5)) p5.out 2 (.slice none 0 0)) p5.out 3 (.slice A6 r2.length c6))
      exact ⟨_, rfl, At.mk_ (x := ⟨false, r1, [], r2⟩) hq.out q1.out (Kd.C_nil _ _) (Nat.le_refl _) hp.out p1.out, hb.out⟩
end Go.Proofs.Ytnghbfegijnolaa.A
