/-
  branch.
-/
import Derived.Test.YtnghbfegijnolaaA7
namespace Go.Proofs.Ytnghbfegijnolaa.A
set_option linter.unusedVariables false
set_option linter.unusedSimpArgs false
open Go.RowKit Go.Proofs.YtnghbfegijnolaaW.PrintWords Go.Proofs.YtnghbfegijnolaaW.PrintLast Go.Proofs.YtnghbfegijnolaaW.PrintMore
open Go.Lib (hid)
theorem At.key {w : World} {x : Nd} {b : Bool} {A1 A2 A3 : Option Addr} {n1 n2 n3 c1 c2 c3 : Nat} (H : At w (.agg #[.bool b, .slice A1 n1 c1, .slice A2 n2 c2, .slice A3 n3 c3]) x) (i : Nat) (hi : i < x.keys.length) : ∃ ad, A1 = some ad ∧ w.cell? (ad.add i) = some (.int .u64 (x.keys.getD i 0)) := by
  obtain ⟨B1, d1, B2, d2, B3, d3, e, ⟨h1, l1⟩, _, _⟩ := H
  have e1 : A1 = B1 := by
    have h := congrArg (fun v => match v with | Value.agg cs => (match cs[1]? with | some (Value.slice a _ _) => a | _ => none) | _ => none) e
    exact h
  subst e1
  exact C_one h1 0 i hi
theorem wr_a (p : Nat) (h : p < 20) : wrap64 (((p + 1 : Nat) : Int) - 1) = (p : Int) := by unfold wrap64; omega
theorem wr_b (p : Nat) (h : p < 20) : wrap64 ((p : Int) + 1 - 1) = (p : Int) := by unfold wrap64; omega
theorem wr_c (p : Nat) (h : p < 20) : wrap64 (p : Int) = (p : Int) := by unfold wrap64; omega
/-- A kid's place in a branch. -/
def atF (x : Nd) (key : Int) : Nat := if isAt x.keys key = true then place x.keys key + 1 else place x.keys key
theorem find_branch (x : Nd) (key : Int) (h : x.leaf = false) : findF x key = (((atF x key : Nat) : Int), true) := by
  rw [findF, if_neg (by rw [h]; decide), atF]
  split <;> simp
theorem at_le (x : Nd) (key : Int) : atF x key ≤ x.keys.length := by
  have h1 : place x.keys key ≤ x.keys.length := placeF_le x.keys key x.keys.length 0 x.keys.length (Nat.zero_le _)
  unfold atF
  split
  · rename_i h
    unfold isAt at h
    simp only [Bool.and_eq_true, decide_eq_true_eq] at h
    omega
  · exact h1
def standsB (x : Nd) (key : Int) : Bool := decide (0 < atF x key) && decide (x.keys.getD (atF x key - 1) 0 = key)
def branchStep (x : Nd) (i : Nat) (key : Int) : Nd := if standsB x key = true then x else hangF x (atF x key : Nat) key ((i : Int) + 3)
def branchGo : List (Int × ByteArray) → Nat → Nd → Nd
  | [], _, x => x
  | p :: l, i, x => branchGo l (i + 1) (branchStep x i p.1)
def branchF (ps : List (Int × ByteArray)) : Nd := branchGo (ps.take 20) 0 ⟨false, [], [], [2]⟩
theorem hang_len (x : Nd) (i key kid : Int) (k : Nat) (h0 : x.leaf = false) (h1 : x.keys.length ≤ k) (h2 : x.kids.length ≤ k + 1) : (hangF x i key kid).keys.length ≤ k + 1 ∧ (hangF x i key kid).kids.length ≤ k + 2 ∧ (hangF x i key kid).leaf = false := by
  unfold hangF
  split
  · have e1 := laidF_len x.keys [key] i.toNat 0
    have e2 := laidF_len x.kids [kid] (i.toNat + 1) 0
    simp only [List.length_singleton] at e1 e2
    exact ⟨by show (laidF _ _ _ _).length ≤ _; omega, by show (laidF _ _ _ _).length ≤ _; omega, rfl⟩
  · exact ⟨by omega, by omega, h0⟩
set_option maxHeartbeats 3000000 in
set_option maxRecDepth 100000 in
theorem branch_walk (ps : List (Int × ByteArray)) (A : Option Addr) (c : Nat) (w : World) (H : (Kd.pair (Kd.int .u64) Kd.string).C w A ps.length ps) :
    Calls Try.prog 11 #[.slice A ps.length c] w fun e w' => ∃ v', e = .returned v' ∧ At w' v' (branchF ps) ∧ Below w.heap.size w w' := by
  have HP := hid (fun i hi => P_at H i hi)
  generalize hn : ps.length = n at *
  replace hn := hid hn
  clear H
  have hr : Hid ((((w.alloc (.cells #[.bool false, .slice none 0 0, .slice none 0 0, .slice none 0 0] 29)).alloc (.cells #[.int .i64 2] 3)).alloc (.cells #[.bool false, .slice none 0 0, .slice none 0 0, .slice (some ⟨w.heap.size + 1, 0, none⟩) 1 1] 29)).heap[w.heap.size]? = some (.cells #[.bool false, .slice none 0 0, .slice none 0 0, .slice none 0 0] 29 (0, 0))) := hid (((below_alloc (Below.refl _ _) _).block w.heap.size (blk_lt (alloc2_fst w _ _))).trans (alloc2_fst w _ _))
  have hrow : Hid ((((w.alloc (.cells #[.bool false, .slice none 0 0, .slice none 0 0, .slice none 0 0] 29)).alloc (.cells #[.int .i64 2] 3)).alloc (.cells #[.bool false, .slice none 0 0, .slice none 0 0, .slice (some ⟨w.heap.size + 1, 0, none⟩) 1 1] 29)).heap[w.heap.size + 1]? = some (.cells #[.int .i64 2] 3 (0, 0))) := hid (((below_alloc (Below.refl _ _) _).block (w.heap.size + 1) (blk_lt (alloc2_snd w _ _))).trans (alloc2_snd w _ _))
  have hx : Hid ((((w.alloc (.cells #[.bool false, .slice none 0 0, .slice none 0 0, .slice none 0 0] 29)).alloc (.cells #[.int .i64 2] 3)).alloc (.cells #[.bool false, .slice none 0 0, .slice none 0 0, .slice (some ⟨w.heap.size + 1, 0, none⟩) 1 1] 29)).heap[w.heap.size + 1 + 1]? = some (.cells #[.bool false, .slice none 0 0, .slice none 0 0, .slice (some ⟨w.heap.size + 1, 0, none⟩) 1 1] 29 (0, 0))) := hid (alloc2_snd (w.alloc (.cells #[.bool false, .slice none 0 0, .slice none 0 0, .slice none 0 0] 29)) (.cells #[.int .i64 2] 3) (.cells #[.bool false, .slice none 0 0, .slice none 0 0, .slice (some ⟨w.heap.size + 1, 0, none⟩) 1 1] 29) ▸ by rw [show (w.alloc (.cells #[.bool false, .slice none 0 0, .slice none 0 0, .slice none 0 0] 29)).heap.size + 1 = w.heap.size + 1 + 1 from by rw [show (w.alloc (.cells #[.bool false, .slice none 0 0, .slice none 0 0, .slice none 0 0] 29)).heap.size = w.heap.size + 1 from Array.size_push ..]])
  have hB := hid (below_alloc (below_alloc (below_alloc (Below.refl w.heap.size w) (.cells #[.bool false, .slice none 0 0, .slice none 0 0, .slice none 0 0] 29)) (.cells #[.int .i64 2] 3)) (.cells #[.bool false, .slice none 0 0, .slice none 0 0, .slice (some ⟨w.heap.size + 1, 0, none⟩) 1 1] 29))
  obtain ⟨m, hm⟩ : ∃ m, m = min 20 n := ⟨_, rfl⟩
  have hg : Hid (branchGo ((ps.drop 0).take m) 0 ⟨false, [], [], [2]⟩ = branchF ps) := hid (by rw [List.drop_zero, branchF]; congr 1; rw [hm, ← hn.out]; rcases Nat.le_total 20 ps.length with h | h; rw [Nat.min_eq_left h]; rw [Nat.min_eq_right h, List.take_of_length_le h, List.take_of_length_le (Nat.le_refl _)])
  go_enter Try.func11, Try.ntmps11
  go_upto_region 2 with fail
  generalize ((w.alloc (.cells #[.bool false, .slice none 0 0, .slice none 0 0, .slice none 0 0] 29)).alloc (.cells #[.int .i64 2] 3)).alloc (.cells #[.bool false, .slice none 0 0, .slice none 0 0, .slice (some ⟨w.heap.size + 1, 0, none⟩) 1 1] 29) = w1 at *
  go_wp2_with fail
  go_loopg [4] m (fun g i wr => ∃ (k : Nat) (x : Nd) (A1 A2 A3 : Option Addr) (c1 c2 c3 : Nat), i = .int .i64 (k : Int) ∧ k + g = m ∧ Hid (Below w.heap.size w wr) ∧ Hid (wr.heap[w.heap.size]? = some (.cells #[.bool false, .slice none 0 0, .slice none 0 0, .slice none 0 0] 29 (0, 0))) ∧ Hid (wr.heap[w.heap.size + 1 + 1]? = some (.cells #[.bool x.leaf, .slice A1 x.keys.length c1, .slice A2 x.vals.length c2, .slice A3 x.kids.length c3] 29 (0, 0))) ∧ Hid (At wr (.agg #[.bool x.leaf, .slice A1 x.keys.length c1, .slice A2 x.vals.length c2, .slice A3 x.kids.length c3]) x) ∧ Hid (branchGo ((ps.drop k).take g) k x = branchF ps) ∧ x.keys.length ≤ k ∧ x.kids.length ≤ k + 1 ∧ x.leaf = false)
  case atStart => exact ⟨0, ⟨false, [], [], [2]⟩, none, none, some ⟨w.heap.size + 1, 0, none⟩, 0, 0, 1, rfl, by omega, hB, hr, hx, hid (At.mk_ (x := ⟨false, [], [], [2]⟩) (Kd.C_nil _ _) (Nat.le_refl _) (Kd.C_nil _ _) (Nat.le_refl _) (C_row1 hrow.out) (Nat.le_refl _)), hg, Nat.le_refl _, Nat.le_refl _, rfl⟩
  case round =>
    clear hr hx hB hg hrow
    obtain ⟨k, x, A1, A2, A3, c1, c2, c3, rfl, hk, hB, hr, hx, hAt, hF, hk1, hk2, hlf⟩ := hrel
    by_cases hlt : k < m
    · cases gk with
      | zero => omega
      | succ g =>
        have a1 : (k : Int) < (n : Int) := by omega
        have a2 : (k : Int) < 20 := by omega
        obtain ⟨ad, hA, hc1, _⟩ := HP.out k (by omega)
        subst hA
        have hF2 := hF.out
        rw [drop_take_step ps (0, ⟨#[]⟩) k g (by rw [hn.out]; omega), branchGo] at hF2
        generalize (ps.getD k (0, ⟨#[]⟩)) = pr at hc1 hF2
        obtain ⟨key, s⟩ := pr
        simp only at hc1 hF2
        have hc1' := hid (pw_cell_below hB.out hc1)
        clear hc1
        have hfd := hid (fun W H => find_walk x (.agg #[.bool x.leaf, .slice A1 x.keys.length c1, .slice A2 x.vals.length c2, .slice A3 x.kids.length c3]) key W H (by omega))
        have hfe := find_branch x key hlf
        rw [hfe] at hfd
        have hale := at_le x key
        have hst : standsB x key = (decide (0 < atF x key) && decide (x.keys.getD (atF x key - 1) 0 = key)) := rfl
        rw [branchStep, hst] at hF2
        have hlen := hang_len x (atF x key : Nat) key ((k : Int) + 3) k hlf hk1 hk2
        have hHang := hid (fun W H => hang_walk x (.agg #[.bool x.leaf, .slice A1 x.keys.length c1, .slice A2 x.vals.length c2, .slice A3 x.kids.length c3]) (atF x key : Nat) key ((k : Int) + 3) W H (by omega) (by omega))
        have hw3 : wrap64 ((k : Int) + 3) = (k : Int) + 3 := by unfold wrap64; omega
        clear hF hfe hst
        replace hw3 := hid hw3
        replace hlf := hid hlf
        generalize atF x key = p at hfd hale hF2 hlen hHang
        replace hlen := hid hlen
        replace hF2 := hid hF2
        have hkk := hid (And.intro hk1 hk2)
        clear hk1 hk2
        have d0 : wr.cell? ⟨w.heap.size + 1 + 1, 0, none⟩ = some (.bool x.leaf) := (blk_cell hx.out 0).trans rfl
        have d1 : wr.cell? ⟨w.heap.size + 1 + 1, 1, none⟩ = some (.slice A1 x.keys.length c1) := (blk_cell hx.out 1).trans rfl
        have d2 : wr.cell? ⟨w.heap.size + 1 + 1, 2, none⟩ = some (.slice A2 x.vals.length c2) := (blk_cell hx.out 2).trans rfl
        have d3 : wr.cell? ⟨w.heap.size + 1 + 1, 3, none⟩ = some (.slice A3 x.kids.length c3) := (blk_cell hx.out 3).trans rfl
        go_upto_region 5 with fail
        refine start_ (n := 12) (S := fun w' => Below wr.heap.size wr w') (ds := []) #[false, false, false, false, false, false, false, false, false, false, false, false] (by kernel_rfl) rfl rfl (below_drew (Below.refl _ _)) (fun hHeld => ?_)
        refine take_ (i := 0) (N := some 20) (v := ?_) (a' := ?_) #[true, false, false, false, false, false, false, false, false, false, false, false] rfl rfl (by kernel_rfl) (fun _ _ _ h => h) (Or.inl ⟨by rfl, ?_⟩) hHeld ?_ ?_
        rotate_left
        · rintro w' hb'
          have dd0 := pw_cell_below hb' d0
          have dd1 := pw_cell_below hb' d1
          have dd2 := pw_cell_below hb' d2
          have dd3 := pw_cell_below hb' d3
          go_simp
          with_reducible rfl
        rotate_left
        · simp only [Act.put, List.setIfInBounds_toArray, List.set_cons_zero, List.set_cons_succ, i64_w, i32_w]
          rfl
        refine pure_ (i := 1) (N := some 21) (v := ?_) (a' := ?_) #[true, true, false, false, false, false, false, false, false, false, false, false] rfl rfl (by kernel_rfl) (fun _ _ _ h => h) (Or.inl ⟨by rfl, ?_⟩) ?_ ?_
        rotate_left
        · intro w'
          go_simp
          with_reducible rfl
        rotate_left
        · simp only [Act.put, List.setIfInBounds_toArray, List.set_cons_zero, List.set_cons_succ, i64_w, i32_w]
          rfl
        refine pure_ (i := 2) (N := some 22) (v := ?_) (a' := ?_) #[true, true, true, false, false, false, false, false, false, false, false, false] rfl rfl (by kernel_rfl) (fun _ _ _ h => h) (Or.inl ⟨by rfl, ?_⟩) ?_ ?_
        rotate_left
        · intro w'
          go_simp
          with_reducible rfl
        rotate_left
        · simp only [Act.put, List.setIfInBounds_toArray, List.set_cons_zero, List.set_cons_succ, i64_w, i32_w]
          rfl
        refine pure_ (i := 3) (N := some 23) (v := ?_) (a' := ?_) #[true, true, true, true, false, false, false, false, false, false, false, false] rfl rfl (by kernel_rfl) (fun _ _ _ h => h) (Or.inl ⟨by rfl, ?_⟩) ?_ ?_
        rotate_left
        · intro w'
          go_simp
          with_reducible rfl
        rotate_left
        · simp only [Act.put, List.setIfInBounds_toArray, List.set_cons_zero, List.set_cons_succ, i64_w, i32_w]
          rfl
        refine pure_ (i := 4) (N := some 24) (v := ?_) (a' := ?_) #[true, true, true, true, true, false, false, false, false, false, false, false] rfl rfl (by kernel_rfl) (fun _ _ _ h => h) (Or.inl ⟨by rfl, ?_⟩) ?_ ?_
        rotate_left
        · intro w'
          go_simp
          with_reducible rfl
        rotate_left
        · simp only [Act.put, List.setIfInBounds_toArray, List.set_cons_zero, List.set_cons_succ, i64_w, i32_w]
          rfl
        refine take_ (i := 5) (N := some 25) (v := ?_) (a' := ?_) #[true, true, true, true, true, true, false, false, false, false, false, false] rfl rfl (by kernel_rfl) (fun _ _ _ h => h) (Or.inl ⟨by rfl, ?_⟩) hHeld ?_ ?_
        rotate_left
        · rintro w' hb'
          have dd := pw_cell_below hb' hc1'.out
          go_simp
          with_reducible rfl
        rotate_left
        · simp only [Act.put, List.setIfInBounds_toArray, List.set_cons_zero, List.set_cons_succ, i64_w, i32_w]
          rfl
        refine one_ (i := 6) (N := some 26) #[true, true, true, true, true, true, true, false, false, false, false, false] rfl rfl (by kernel_rfl) (by decide) (fun K hK => ?_)
        refine goes_ Try.func12 (by kernel_rfl) rfl #[.agg #[.bool x.leaf, .slice A1 x.keys.length c1, .slice A2 x.vals.length c2, .slice A3 x.kids.length c3], .int .u64 key] (by rfl) rfl rfl (by (try simp only [List.map_toArray, List.map_cons, List.map_nil]); first | done | rfl) ?_
        refine (hfd.out _ (hAt.out.below (below_drew (Below.refl _ _)))).mono ?_
        rintro r w3 ⟨rfl, q4⟩
        have s3 := below_then (below_drew (Below.refl _ _)) (Nat.le_refl _) q4
        refine ⟨_, rfl, ?_⟩
        refine hK.out _ _ s3 (fun hHeld => ?_)
        clear hK K
        refine norm_ (a' := ?_) ?_ ?_
        rotate_left
        · show Act.put _ (some 26) _ = _
          simp only [Act.put, List.setIfInBounds_toArray, List.set_cons_zero, List.set_cons_succ, i64_w, i32_w]
          rfl
        refine pure_ (i := 7) (N := some 19) (v := ?_) (a' := ?_) #[true, true, true, true, true, true, true, true, false, false, false, false] rfl rfl (by kernel_rfl) (fun _ _ _ h => h) (Or.inl ⟨by rfl, ?_⟩) ?_ ?_
        rotate_left
        · intro w'
          go_simp
          with_reducible rfl
        rotate_left
        · simp only [Act.put, List.setIfInBounds_toArray, List.set_cons_zero, List.set_cons_succ, i64_w, i32_w]
          rfl
        refine pure_ (i := 8) (N := some 27) (v := ?_) (a' := ?_) #[true, true, true, true, true, true, true, true, true, false, false, false] rfl rfl (by kernel_rfl) (fun _ _ _ h => h) (Or.inl ⟨by rfl, ?_⟩) ?_ ?_
        rotate_left
        · intro w'
          go_simp
          with_reducible rfl
        rotate_left
        · simp only [Act.put, List.setIfInBounds_toArray, List.set_cons_zero, List.set_cons_succ, i64_w, i32_w]
          rfl
        refine pure_ (i := 9) (N := some 28) (v := ?_) (a' := ?_) #[true, true, true, true, true, true, true, true, true, true, false, false] rfl rfl (by kernel_rfl) (fun _ _ _ h => h) (Or.inl ⟨by rfl, ?_⟩) ?_ ?_
        rotate_left
        · intro w'
          go_simp
          with_reducible rfl
        rotate_left
        · simp only [Act.put, List.setIfInBounds_toArray, List.set_cons_zero, List.set_cons_succ, i64_w, i32_w]
          rfl
        refine pure_ (i := 10) (N := some 5) (v := ?_) (a' := ?_) #[true, true, true, true, true, true, true, true, true, true, true, false] rfl rfl (by kernel_rfl) (fun _ _ _ h => h) (Or.inl ⟨by rfl, ?_⟩) ?_ ?_
        rotate_left
        · intro w'
          go_simp
          with_reducible rfl
        rotate_left
        · simp only [Act.put, List.setIfInBounds_toArray, List.set_cons_zero, List.set_cons_succ, i64_w, i32_w]
          rfl
        refine pure_ (i := 11) (N := some 6) (v := ?_) (a' := ?_) #[true, true, true, true, true, true, true, true, true, true, true, true] rfl rfl (by kernel_rfl) (fun _ _ _ h => h) (Or.inl ⟨by rfl, ?_⟩) ?_ ?_
        rotate_left
        · intro w'
          go_simp
          with_reducible rfl
        rotate_left
        · simp only [Act.put, List.setIfInBounds_toArray, List.set_cons_zero, List.set_cons_succ, i64_w, i32_w]
          rfl
        refine done_ (by kernel_rfl) ?_
        have s3' := hid s3
        replace hB := hid (below_then hB.out hB.out.size s3)
        replace hx := hid ((s3.block _ (blk_lt hx.out)).trans hx.out)
        replace hr := hid ((s3.block _ (blk_lt hr.out)).trans hr.out)
        have hAt3 := hid (hAt.out.below s3)
        replace hc1' := hid (pw_cell_below s3 hc1'.out)
        clear s3 q4 hAt d0 d1 d2 d3 hHeld hfd
        go_wp2_with fail
        have hF2' := hF2.out
        obtain ⟨st, hst⟩ : ∃ st, (decide (0 < p) && decide (x.keys.getD (p - 1) 0 = key)) = st := ⟨_, rfl⟩
        rw [hst] at hF2'
        replace hF2 := hid hF2'
        clear hF2'
        go_cut [44] (fun s44 w4 => s44 = .bool st ∧ Hid (Below w3.heap.size w3 w4))
        case first =>
          clear hHang hF2 hlen
          cases p with
          | zero =>
            have hst2 : (decide (0 < 0) && decide (x.keys.getD (0 - 1) 0 = key)) = false := by simp
            rw [hst2] at hst
            subst hst
            clear hst2
            refine start_ (n := 16) (S := fun w' => True) (ds := []) #[false, false, false, false, false, false, false, false, false, false, false, false, false, false, false, false] (by kernel_rfl) rfl rfl trivial (fun hHeld => ?_)
            refine pure_ (i := 0) (N := some 29) (v := ?_) (a' := ?_) #[true, false, false, false, false, false, false, false, false, false, false, false, false, false, false, false] rfl rfl (by kernel_rfl) (fun _ _ _ h => h) (Or.inl ⟨by rfl, ?_⟩) ?_ ?_
            rotate_left
            · intro w'
              go_simp
              with_reducible rfl
            rotate_left
            · simp only [Act.put, List.setIfInBounds_toArray, List.set_cons_zero, List.set_cons_succ, i64_w, i32_w]
              rfl
            refine pure_ (i := 1) (N := some 30) (v := ?_) (a' := ?_) #[true, true, false, false, false, false, false, false, false, false, false, false, false, false, false, false] rfl rfl (by kernel_rfl) (fun _ _ _ h => h) (Or.inl ⟨by rfl, ?_⟩) ?_ ?_
            rotate_left
            · intro w'
              go_simp
              with_reducible rfl
            rotate_left
            · simp only [Act.put, List.setIfInBounds_toArray, List.set_cons_zero, List.set_cons_succ, i64_w, i32_w]
              rfl
            refine pure_ (i := 2) (N := some 31) (v := ?_) (a' := ?_) #[true, true, true, false, false, false, false, false, false, false, false, false, false, false, false, false] rfl rfl (by kernel_rfl) (fun _ _ _ h => h) (Or.inl ⟨by rfl, ?_⟩) ?_ ?_
            rotate_left
            · intro w'
              go_simp
              with_reducible rfl
            rotate_left
            · simp only [Act.put, List.setIfInBounds_toArray, List.set_cons_zero, List.set_cons_succ, i64_w, i32_w]
              rfl
            refine pure_ (i := 3) (N := some 32) (v := undef) (a' := ?_) #[true, true, true, true, false, false, false, false, false, false, false, false, false, false, false, false] rfl rfl (by kernel_rfl) (fun _ _ _ h => h) (Or.inr ⟨by rfl, rfl⟩) ?_ ?_
            rotate_left
            · simp only [Act.put, List.setIfInBounds_toArray, List.set_cons_zero, List.set_cons_succ, i64_w, i32_w]
              rfl
            refine pure_ (i := 4) (N := some 33) (v := undef) (a' := ?_) #[true, true, true, true, true, false, false, false, false, false, false, false, false, false, false, false] rfl rfl (by kernel_rfl) (fun _ _ _ h => h) (Or.inr ⟨by rfl, rfl⟩) ?_ ?_
            rotate_left
            · simp only [Act.put, List.setIfInBounds_toArray, List.set_cons_zero, List.set_cons_succ, i64_w, i32_w]
              rfl
            refine pure_ (i := 5) (N := some 34) (v := undef) (a' := ?_) #[true, true, true, true, true, true, false, false, false, false, false, false, false, false, false, false] rfl rfl (by kernel_rfl) (fun _ _ _ h => h) (Or.inr ⟨by rfl, rfl⟩) ?_ ?_
            rotate_left
            · simp only [Act.put, List.setIfInBounds_toArray, List.set_cons_zero, List.set_cons_succ, i64_w, i32_w]
              rfl
            refine pure_ (i := 6) (N := some 35) (v := undef) (a' := ?_) #[true, true, true, true, true, true, true, false, false, false, false, false, false, false, false, false] rfl rfl (by kernel_rfl) (fun _ _ _ h => h) (Or.inr ⟨by rfl, rfl⟩) ?_ ?_
            rotate_left
            · simp only [Act.put, List.setIfInBounds_toArray, List.set_cons_zero, List.set_cons_succ, i64_w, i32_w]
              rfl
            refine pure_ (i := 7) (N := some 36) (v := undef) (a' := ?_) #[true, true, true, true, true, true, true, true, false, false, false, false, false, false, false, false] rfl rfl (by kernel_rfl) (fun _ _ _ h => h) (Or.inr ⟨by rfl, rfl⟩) ?_ ?_
            rotate_left
            · simp only [Act.put, List.setIfInBounds_toArray, List.set_cons_zero, List.set_cons_succ, i64_w, i32_w]
              rfl
            refine pure_ (i := 8) (N := some 37) (v := undef) (a' := ?_) #[true, true, true, true, true, true, true, true, true, false, false, false, false, false, false, false] rfl rfl (by kernel_rfl) (fun _ _ _ h => h) (Or.inr ⟨by rfl, rfl⟩) ?_ ?_
            rotate_left
            · simp only [Act.put, List.setIfInBounds_toArray, List.set_cons_zero, List.set_cons_succ, i64_w, i32_w]
              rfl
            refine pure_ (i := 9) (N := some 38) (v := undef) (a' := ?_) #[true, true, true, true, true, true, true, true, true, true, false, false, false, false, false, false] rfl rfl (by kernel_rfl) (fun _ _ _ h => h) (Or.inr ⟨by rfl, rfl⟩) ?_ ?_
            rotate_left
            · simp only [Act.put, List.setIfInBounds_toArray, List.set_cons_zero, List.set_cons_succ, i64_w, i32_w]
              rfl
            refine pure_ (i := 10) (N := some 39) (v := undef) (a' := ?_) #[true, true, true, true, true, true, true, true, true, true, true, false, false, false, false, false] rfl rfl (by kernel_rfl) (fun _ _ _ h => h) (Or.inr ⟨by rfl, rfl⟩) ?_ ?_
            rotate_left
            · simp only [Act.put, List.setIfInBounds_toArray, List.set_cons_zero, List.set_cons_succ, i64_w, i32_w]
              rfl
            refine pure_ (i := 11) (N := some 40) (v := undef) (a' := ?_) #[true, true, true, true, true, true, true, true, true, true, true, true, false, false, false, false] rfl rfl (by kernel_rfl) (fun _ _ _ h => h) (Or.inr ⟨by rfl, rfl⟩) ?_ ?_
            rotate_left
            · simp only [Act.put, List.setIfInBounds_toArray, List.set_cons_zero, List.set_cons_succ, i64_w, i32_w]
              rfl
            refine pure_ (i := 12) (N := some 41) (v := undef) (a' := ?_) #[true, true, true, true, true, true, true, true, true, true, true, true, true, false, false, false] rfl rfl (by kernel_rfl) (fun _ _ _ h => h) (Or.inr ⟨by rfl, rfl⟩) ?_ ?_
            rotate_left
            · simp only [Act.put, List.setIfInBounds_toArray, List.set_cons_zero, List.set_cons_succ, i64_w, i32_w]
              rfl
            refine pure_ (i := 13) (N := some 42) (v := undef) (a' := ?_) #[true, true, true, true, true, true, true, true, true, true, true, true, true, true, false, false] rfl rfl (by kernel_rfl) (fun _ _ _ h => h) (Or.inr ⟨by rfl, rfl⟩) ?_ ?_
            rotate_left
            · simp only [Act.put, List.setIfInBounds_toArray, List.set_cons_zero, List.set_cons_succ, i64_w, i32_w]
              rfl
            refine pure_ (i := 14) (N := some 43) (v := undef) (a' := ?_) #[true, true, true, true, true, true, true, true, true, true, true, true, true, true, true, false] rfl rfl (by kernel_rfl) (fun _ _ _ h => h) (Or.inr ⟨by rfl, rfl⟩) ?_ ?_
            rotate_left
            · simp only [Act.put, List.setIfInBounds_toArray, List.set_cons_zero, List.set_cons_succ, i64_w, i32_w]
              rfl
            refine pure_ (i := 15) (N := some 44) (v := ?_) (a' := ?_) #[true, true, true, true, true, true, true, true, true, true, true, true, true, true, true, true] rfl rfl (by kernel_rfl) (fun _ _ _ h => h) (Or.inl ⟨by rfl, ?_⟩) ?_ ?_
            rotate_left
            · intro w'
              go_simp
              with_reducible rfl
            rotate_left
            · simp only [Act.put, List.setIfInBounds_toArray, List.set_cons_zero, List.set_cons_succ, i64_w, i32_w]
              rfl
            refine done_ (by kernel_rfl) ?_
            clear hHeld
            go_wp2_with fail
            go_meet
            exact ⟨by first | rfl | trivial, hid (below_drew (Below.refl _ _))⟩
          | succ p =>
            obtain ⟨ak, hA1, hck⟩ := hAt3.out.key p (by omega)
            subst hA1
            generalize hy : x.keys.getD p 0 = y at hck
            have hpk : p < 20 := by have := hkk.out.1; omega
            have d0 : w3.cell? ⟨w.heap.size + 1 + 1, 0, none⟩ = some (.bool x.leaf) := (blk_cell hx.out 0).trans rfl
            have d1 : w3.cell? ⟨w.heap.size + 1 + 1, 1, none⟩ = some (.slice (some ak) x.keys.length c1) := (blk_cell hx.out 1).trans rfl
            have d2 : w3.cell? ⟨w.heap.size + 1 + 1, 2, none⟩ = some (.slice A2 x.vals.length c2) := (blk_cell hx.out 2).trans rfl
            have d3 : w3.cell? ⟨w.heap.size + 1 + 1, 3, none⟩ = some (.slice A3 x.kids.length c3) := (blk_cell hx.out 3).trans rfl
            have hc3 := hc1'.out
            have hp0 : (0 : Int) < ((p + 1 : Nat) : Int) := by omega
            have hpn : (p : Int) < (x.keys.length : Int) := by omega
            have hs1 := wr_a p hpk
            have hs2 := wr_b p hpk
            have hs3 := wr_c p hpk
            have hst2 : decide (y = key) = st := by rw [← hst, ← hy]; simp
            replace hy := hid hy
            replace hst := hid hst2
            clear hst2
            refine start_ (n := 16) (S := fun w' => Below w3.heap.size w3 w') (ds := []) #[false, false, false, false, false, false, false, false, false, false, false, false, false, false, false, false] (by kernel_rfl) rfl rfl (below_drew (Below.refl _ _)) (fun hHeld => ?_)
            refine pure_ (i := 0) (N := some 29) (v := ?_) (a' := ?_) #[true, false, false, false, false, false, false, false, false, false, false, false, false, false, false, false] rfl rfl (by kernel_rfl) (fun _ _ _ h => h) (Or.inl ⟨by rfl, ?_⟩) ?_ ?_
            rotate_left
            · intro w'
              go_simp
              with_reducible rfl
            rotate_left
            · simp only [Act.put, List.setIfInBounds_toArray, List.set_cons_zero, List.set_cons_succ, i64_w, i32_w]
              rfl
            refine pure_ (i := 1) (N := some 30) (v := ?_) (a' := ?_) #[true, true, false, false, false, false, false, false, false, false, false, false, false, false, false, false] rfl rfl (by kernel_rfl) (fun _ _ _ h => h) (Or.inl ⟨by rfl, ?_⟩) ?_ ?_
            rotate_left
            · intro w'
              go_simp
              with_reducible rfl
            rotate_left
            · simp only [Act.put, List.setIfInBounds_toArray, List.set_cons_zero, List.set_cons_succ, i64_w, i32_w]
              rfl
            refine pure_ (i := 2) (N := some 31) (v := ?_) (a' := ?_) #[true, true, true, false, false, false, false, false, false, false, false, false, false, false, false, false] rfl rfl (by kernel_rfl) (fun _ _ _ h => h) (Or.inl ⟨by rfl, ?_⟩) ?_ ?_
            rotate_left
            · intro w'
              go_simp
              with_reducible rfl
            rotate_left
            · simp only [Act.put, List.setIfInBounds_toArray, List.set_cons_zero, List.set_cons_succ, i64_w, i32_w]
              rfl
            refine pure_ (i := 3) (N := some 32) (v := ?_) (a' := ?_) #[true, true, true, true, false, false, false, false, false, false, false, false, false, false, false, false] rfl rfl (by kernel_rfl) (fun _ _ _ h => h) (Or.inl ⟨by rfl, ?_⟩) ?_ ?_
            rotate_left
            · intro w'
              go_simp
              with_reducible rfl
            rotate_left
            · simp only [Act.put, List.setIfInBounds_toArray, List.set_cons_zero, List.set_cons_succ, i64_w, i32_w]
              rfl
            refine take_ (i := 4) (N := some 33) (v := ?_) (a' := ?_) #[true, true, true, true, true, false, false, false, false, false, false, false, false, false, false, false] rfl rfl (by kernel_rfl) (fun _ _ _ h => h) (Or.inl ⟨by rfl, ?_⟩) hHeld ?_ ?_
            rotate_left
            · rintro w' hb'
              have dd := pw_cell_below hb' d1
              go_simp
              with_reducible rfl
            rotate_left
            · simp only [Act.put, List.setIfInBounds_toArray, List.set_cons_zero, List.set_cons_succ, i64_w, i32_w]
              rfl
            refine pure_ (i := 5) (N := some 34) (v := ?_) (a' := ?_) #[true, true, true, true, true, true, false, false, false, false, false, false, false, false, false, false] rfl rfl (by kernel_rfl) (fun _ _ _ h => h) (Or.inl ⟨by rfl, ?_⟩) ?_ ?_
            rotate_left
            · intro w'
              go_simp
              with_reducible rfl
            rotate_left
            · simp only [Act.put, List.setIfInBounds_toArray, List.set_cons_zero, List.set_cons_succ, i64_w, i32_w]
              rfl
            refine pure_ (i := 6) (N := some 35) (v := ?_) (a' := ?_) #[true, true, true, true, true, true, true, false, false, false, false, false, false, false, false, false] rfl rfl (by kernel_rfl) (fun _ _ _ h => h) (Or.inl ⟨by rfl, ?_⟩) ?_ ?_
            rotate_left
            · intro w'
              go_simp
              with_reducible rfl
            rotate_left
            · simp only [Act.put, List.setIfInBounds_toArray, List.set_cons_zero, List.set_cons_succ, i64_w, i32_w]
              rfl
            refine pure_ (i := 7) (N := some 36) (v := ?_) (a' := ?_) #[true, true, true, true, true, true, true, true, false, false, false, false, false, false, false, false] rfl rfl (by kernel_rfl) (fun _ _ _ h => h) (Or.inl ⟨by rfl, ?_⟩) ?_ ?_
            rotate_left
            · intro w'
              go_simp
              with_reducible rfl
            rotate_left
            · simp only [Act.put, List.setIfInBounds_toArray, List.set_cons_zero, List.set_cons_succ, i64_w, i32_w]
              rfl
            refine take_ (i := 8) (N := some 37) (v := ?_) (a' := ?_) #[true, true, true, true, true, true, true, true, true, false, false, false, false, false, false, false] rfl rfl (by kernel_rfl) (fun _ _ _ h => h) (Or.inl ⟨by rfl, ?_⟩) hHeld ?_ ?_
            rotate_left
            · rintro w' hb'
              have dd := pw_cell_below hb' hck
              go_simp
              with_reducible rfl
            rotate_left
            · simp only [Act.put, List.setIfInBounds_toArray, List.set_cons_zero, List.set_cons_succ, i64_w, i32_w]
              rfl
            refine pure_ (i := 9) (N := some 38) (v := ?_) (a' := ?_) #[true, true, true, true, true, true, true, true, true, true, false, false, false, false, false, false] rfl rfl (by kernel_rfl) (fun _ _ _ h => h) (Or.inl ⟨by rfl, ?_⟩) ?_ ?_
            rotate_left
            · intro w'
              go_simp
              with_reducible rfl
            rotate_left
            · simp only [Act.put, List.setIfInBounds_toArray, List.set_cons_zero, List.set_cons_succ, i64_w, i32_w]
              rfl
            refine pure_ (i := 10) (N := some 39) (v := ?_) (a' := ?_) #[true, true, true, true, true, true, true, true, true, true, true, false, false, false, false, false] rfl rfl (by kernel_rfl) (fun _ _ _ h => h) (Or.inl ⟨by rfl, ?_⟩) ?_ ?_
            rotate_left
            · intro w'
              go_simp
              with_reducible rfl
            rotate_left
            · simp only [Act.put, List.setIfInBounds_toArray, List.set_cons_zero, List.set_cons_succ, i64_w, i32_w]
              rfl
            refine pure_ (i := 11) (N := some 40) (v := ?_) (a' := ?_) #[true, true, true, true, true, true, true, true, true, true, true, true, false, false, false, false] rfl rfl (by kernel_rfl) (fun _ _ _ h => h) (Or.inl ⟨by rfl, ?_⟩) ?_ ?_
            rotate_left
            · intro w'
              go_simp
              with_reducible rfl
            rotate_left
            · simp only [Act.put, List.setIfInBounds_toArray, List.set_cons_zero, List.set_cons_succ, i64_w, i32_w]
              rfl
            refine pure_ (i := 12) (N := some 41) (v := ?_) (a' := ?_) #[true, true, true, true, true, true, true, true, true, true, true, true, true, false, false, false] rfl rfl (by kernel_rfl) (fun _ _ _ h => h) (Or.inl ⟨by rfl, ?_⟩) ?_ ?_
            rotate_left
            · intro w'
              go_simp
              with_reducible rfl
            rotate_left
            · simp only [Act.put, List.setIfInBounds_toArray, List.set_cons_zero, List.set_cons_succ, i64_w, i32_w]
              rfl
            refine take_ (i := 13) (N := some 42) (v := ?_) (a' := ?_) #[true, true, true, true, true, true, true, true, true, true, true, true, true, true, false, false] rfl rfl (by kernel_rfl) (fun _ _ _ h => h) (Or.inl ⟨by rfl, ?_⟩) hHeld ?_ ?_
            rotate_left
            · rintro w' hb'
              have dd := pw_cell_below hb' hc3
              go_simp
              with_reducible rfl
            rotate_left
            · simp only [Act.put, List.setIfInBounds_toArray, List.set_cons_zero, List.set_cons_succ, i64_w, i32_w]
              rfl
            refine pure_ (i := 14) (N := some 43) (v := ?_) (a' := ?_) #[true, true, true, true, true, true, true, true, true, true, true, true, true, true, true, false] rfl rfl (by kernel_rfl) (fun _ _ _ h => h) (Or.inl ⟨by rfl, ?_⟩) ?_ ?_
            rotate_left
            · intro w'
              go_simp
              with_reducible rfl
            rotate_left
            · simp only [Act.put, List.setIfInBounds_toArray, List.set_cons_zero, List.set_cons_succ, i64_w, i32_w]
              rfl
            refine pure_ (i := 15) (N := some 44) (v := ?_) (a' := ?_) #[true, true, true, true, true, true, true, true, true, true, true, true, true, true, true, true] rfl rfl (by kernel_rfl) (fun _ _ _ h => h) (Or.inl ⟨by rfl, ?_⟩) ?_ ?_
            rotate_left
            · intro w'
              go_simp
              with_reducible rfl
            rotate_left
            · simp only [Act.put, List.setIfInBounds_toArray, List.set_cons_zero, List.set_cons_succ, i64_w, i32_w]
              rfl
            refine done_ (by kernel_rfl) ?_
            clear hHeld
            go_wp2_with fail
            go_meet
            exact ⟨by rw [← hst.out]; first | rfl | simp, hid (below_drew (Below.refl _ _))⟩
        case rest =>
          obtain ⟨rfl, hcb⟩ := hcut
          skip
          have s4 := hcb.out
          replace hB := hid (below_then hB.out hB.out.size s4)
          replace hx := hid ((s4.block _ (blk_lt hx.out)).trans hx.out)
          replace hr := hid ((s4.block _ (blk_lt hr.out)).trans hr.out)
          have hAt4 := hid (hAt3.out.below s4)
          have hc4 := hid (pw_cell_below s4 hc1'.out)
          clear s4 hAt3 hc1' s3' hcb
          replace hst := hid hst
          cases st with
          | true =>
            have hF4 := hid (by have h := hF2.out; rw [if_pos rfl] at h; exact h)
            clear hHang hF2 hlen
            go_wp2_with fail
            go_roundg g
            case measure => omega
            case rel => exact ⟨k + 1, x, A1, A2, A3, c1, c2, c3, by first | rfl | go_num, by omega, hB, hr, hx, hAt4, hF4, by have := hkk.out.1; omega, by have := hkk.out.2; omega, hlf.out⟩
          | false =>
            have hF4 := hid (by have h := hF2.out; rw [if_neg (by decide)] at h; exact h)
            have hlen4 := hlen
            have hH4 := hHang
            generalize hangF x ((p : Nat) : Int) key ((k : Int) + 3) = y5 at hH4 hF4 hlen4
            clear hHang hF2 hlen
            go_upto_region 7 with fail
            have d0 : wc.cell? ⟨w.heap.size + 1 + 1, 0, none⟩ = some (.bool x.leaf) := (blk_cell hx.out 0).trans rfl
            have d1 : wc.cell? ⟨w.heap.size + 1 + 1, 1, none⟩ = some (.slice A1 x.keys.length c1) := (blk_cell hx.out 1).trans rfl
            have d2 : wc.cell? ⟨w.heap.size + 1 + 1, 2, none⟩ = some (.slice A2 x.vals.length c2) := (blk_cell hx.out 2).trans rfl
            have d3 : wc.cell? ⟨w.heap.size + 1 + 1, 3, none⟩ = some (.slice A3 x.kids.length c3) := (blk_cell hx.out 3).trans rfl
            refine start_ (n := 11) (S := fun w' => Below wc.heap.size wc w') (ds := [10]) #[false, false, false, false, false, false, false, false, false, false, false] (by kernel_rfl) rfl rfl (below_drew (Below.refl _ _)) (fun hHeld => ?_)
            refine take_ (i := 0) (N := some 45) (v := ?_) (a' := ?_) #[true, false, false, false, false, false, false, false, false, false, false] rfl rfl (by kernel_rfl) (fun _ _ _ h => h) (Or.inl ⟨by rfl, ?_⟩) hHeld ?_ ?_
            rotate_left
            · rintro w' hb'
              have dd0 := pw_cell_below hb' d0
              have dd1 := pw_cell_below hb' d1
              have dd2 := pw_cell_below hb' d2
              have dd3 := pw_cell_below hb' d3
              go_simp
              with_reducible rfl
            rotate_left
            · simp only [Act.put, List.setIfInBounds_toArray, List.set_cons_zero, List.set_cons_succ, i64_w, i32_w]
              rfl
            refine pure_ (i := 1) (N := some 46) (v := ?_) (a' := ?_) #[true, true, false, false, false, false, false, false, false, false, false] rfl rfl (by kernel_rfl) (fun _ _ _ h => h) (Or.inl ⟨by rfl, ?_⟩) ?_ ?_
            rotate_left
            · intro w'
              go_simp
              with_reducible rfl
            rotate_left
            · simp only [Act.put, List.setIfInBounds_toArray, List.set_cons_zero, List.set_cons_succ, i64_w, i32_w]
              rfl
            refine pure_ (i := 2) (N := some 47) (v := ?_) (a' := ?_) #[true, true, true, false, false, false, false, false, false, false, false] rfl rfl (by kernel_rfl) (fun _ _ _ h => h) (Or.inl ⟨by rfl, ?_⟩) ?_ ?_
            rotate_left
            · intro w'
              go_simp
              with_reducible rfl
            rotate_left
            · simp only [Act.put, List.setIfInBounds_toArray, List.set_cons_zero, List.set_cons_succ, i64_w, i32_w]
              rfl
            refine pure_ (i := 3) (N := some 48) (v := ?_) (a' := ?_) #[true, true, true, true, false, false, false, false, false, false, false] rfl rfl (by kernel_rfl) (fun _ _ _ h => h) (Or.inl ⟨by rfl, ?_⟩) ?_ ?_
            rotate_left
            · intro w'
              go_simp
              with_reducible rfl
            rotate_left
            · simp only [Act.put, List.setIfInBounds_toArray, List.set_cons_zero, List.set_cons_succ, i64_w, i32_w]
              rfl
            refine pure_ (i := 4) (N := some 49) (v := ?_) (a' := ?_) #[true, true, true, true, true, false, false, false, false, false, false] rfl rfl (by kernel_rfl) (fun _ _ _ h => h) (Or.inl ⟨by rfl, ?_⟩) ?_ ?_
            rotate_left
            · intro w'
              go_simp
              with_reducible rfl
            rotate_left
            · simp only [Act.put, List.setIfInBounds_toArray, List.set_cons_zero, List.set_cons_succ, i64_w, i32_w]
              rfl
            refine pure_ (i := 5) (N := some 50) (v := ?_) (a' := ?_) #[true, true, true, true, true, true, false, false, false, false, false] rfl rfl (by kernel_rfl) (fun _ _ _ h => h) (Or.inl ⟨by rfl, ?_⟩) ?_ ?_
            rotate_left
            · intro w'
              go_simp
              with_reducible rfl
            rotate_left
            · simp only [Act.put, List.setIfInBounds_toArray, List.set_cons_zero, List.set_cons_succ, i64_w, i32_w]
              rfl
            refine take_ (i := 6) (N := some 51) (v := ?_) (a' := ?_) #[true, true, true, true, true, true, true, false, false, false, false] rfl rfl (by kernel_rfl) (fun _ _ _ h => h) (Or.inl ⟨by rfl, ?_⟩) hHeld ?_ ?_
            rotate_left
            · rintro w' hb'
              have dd := pw_cell_below hb' hc4.out
              go_simp
              with_reducible rfl
            rotate_left
            · simp only [Act.put, List.setIfInBounds_toArray, List.set_cons_zero, List.set_cons_succ, i64_w, i32_w]
              rfl
            refine pure_ (i := 7) (N := some 52) (v := ?_) (a' := ?_) #[true, true, true, true, true, true, true, true, false, false, false] rfl rfl (by kernel_rfl) (fun _ _ _ h => h) (Or.inl ⟨by rfl, ?_⟩) ?_ ?_
            rotate_left
            · intro w'
              go_simp
              with_reducible rfl
            rotate_left
            · simp only [Act.put, List.setIfInBounds_toArray, List.set_cons_zero, List.set_cons_succ, i64_w, i32_w]
              rfl
            refine pure_ (i := 8) (N := some 53) (v := ?_) (a' := ?_) #[true, true, true, true, true, true, true, true, true, false, false] rfl rfl (by kernel_rfl) (fun _ _ _ h => h) (Or.inl ⟨by rfl, ?_⟩) ?_ ?_
            rotate_left
            · intro w'
              go_simp
              with_reducible rfl
            rotate_left
            · simp only [Act.put, List.setIfInBounds_toArray, List.set_cons_zero, List.set_cons_succ, i64_w, i32_w]
              rfl
            refine one_ (i := 9) (N := some 54) #[true, true, true, true, true, true, true, true, true, true, false] rfl rfl (by kernel_rfl) (by decide) (fun K hK => ?_)
            refine goes_ Try.func13 (by kernel_rfl) rfl #[.agg #[.bool x.leaf, .slice A1 x.keys.length c1, .slice A2 x.vals.length c2, .slice A3 x.kids.length c3], .int .i64 (p : Int), .int .u64 key, .int .i64 (wrap64 ((k : Int) + 3))] (by rfl) rfl rfl (by (try simp only [List.map_toArray, List.map_cons, List.map_nil]); first | done | rfl) ?_
            rw [hw3.out]
            refine (hH4.out _ (hAt4.out.below (below_drew (Below.refl _ _)))).mono ?_
            rintro r w5 ⟨v5, rfl, ⟨B1, b1, B2, b2, B3, b3, rfl, q1, q2, q3⟩, q4⟩
            have q5 := hid (At.mk_ (x := y5) q1.1 q1.2 q2.1 q2.2 q3.1 q3.2)
            clear q1 q2 q3
            have s5 := below_then (below_drew (Below.refl _ _)) (Nat.le_refl _) q4
            have t5 := hid (below_then hB.out hB.out.size s5)
            have hx5 := hid ((s5.block _ (blk_lt hx.out)).trans hx.out)
            have hr5 := hid ((s5.block _ (blk_lt hr.out)).trans hr.out)
            refine ⟨_, rfl, ?_⟩
            refine hK.out _ _ s5 (fun hHeld => ?_)
            clear hK K
            refine norm_ (a' := ?_) ?_ ?_
            rotate_left
            · show Act.put _ (some 54) _ = _
              simp only [Act.put, List.setIfInBounds_toArray, List.set_cons_zero, List.set_cons_succ, i64_w, i32_w]
              rfl
            have y0 : w5.cell? ⟨w.heap.size + 1 + 1, 0, none⟩ = some (.bool x.leaf) := (blk_cell hx5.out 0).trans rfl
            have z0 := blk_frozen hx5.out 0
            have y1 : w5.cell? ⟨w.heap.size + 1 + 1, 1, none⟩ = some (.slice A1 x.keys.length c1) := (blk_cell hx5.out 1).trans rfl
            have z1 := blk_frozen hx5.out 1
            have y2 : w5.cell? ⟨w.heap.size + 1 + 1, 2, none⟩ = some (.slice A2 x.vals.length c2) := (blk_cell hx5.out 2).trans rfl
            have z2 := blk_frozen hx5.out 2
            have y3 : w5.cell? ⟨w.heap.size + 1 + 1, 3, none⟩ = some (.slice A3 x.kids.length c3) := (blk_cell hx5.out 3).trans rfl
            have z3 := blk_frozen hx5.out 3
            refine last_ (i := 10) (N := none) #[true, true, true, true, true, true, true, true, true, true, true] rfl rfl (by kernel_rfl) (by decide) (fun K hK => ?_)
            refine skip_ (w1 := ?_) (by rfl) rfl ?_ ?_
            rotate_left
            · go_simp
              with_reducible rfl
            refine hK.out _ _ ?_
            clear hK K
            refine done_ (by kernel_rfl) ?_
            have hx6 := hid (set4_at hx5.out (.bool y5.leaf) (.slice B1 y5.keys.length b1) (.slice B2 y5.vals.length b2) (.slice B3 y5.kids.length b3))
            have hb6 := hid (set4_below t5.out (Nat.le_trans (Nat.le_succ _) (Nat.le_succ _)) (.bool y5.leaf) (.slice B1 y5.keys.length b1) (.slice B2 y5.vals.length b2) (.slice B3 y5.kids.length b3))
            have hA6 := hid (q5.out.set4 hx5.out (.bool y5.leaf) (.slice B1 y5.keys.length b1) (.slice B2 y5.vals.length b2) (.slice B3 y5.kids.length b3))
            have hr6 := hid ((set4_far (show w.heap.size ≠ w.heap.size + 1 + 1 by omega) (.bool y5.leaf) (.slice B1 y5.keys.length b1) (.slice B2 y5.vals.length b2) (.slice B3 y5.kids.length b3)).trans hr5.out)
            go_wp2_with fail
            go_roundg g
            case measure => omega
            case rel => exact ⟨k + 1, y5, B1, B2, B3, b1, b2, b3, by first | rfl | go_num, by omega, hb6, hr6, hx6, hA6, hF4, hlen4.out.1, hlen4.out.2.1, hlen4.out.2.2⟩
    · have hk0 : k = m := by omega
      obtain rfl : gk = 0 := by omega
      have hE := hF.out
      rw [List.take_zero, branchGo] at hE
      have a1 : ¬ ((k : Int) < (n : Int)) ∨ ((k : Int) < (n : Int) ∧ ¬ ((k : Int) < 20)) := by omega
      have hZ := hid (set4_at hr.out (.bool x.leaf) (.slice A1 x.keys.length c1) (.slice A2 x.vals.length c2) (.slice A3 x.kids.length c3))
      have hb := hid (set4_below hB.out (Nat.le_refl _) (.bool x.leaf) (.slice A1 x.keys.length c1) (.slice A2 x.vals.length c2) (.slice A3 x.kids.length c3))
      have hAt2 := hid (hAt.out.set4 hr.out (.bool x.leaf) (.slice A1 x.keys.length c1) (.slice A2 x.vals.length c2) (.slice A3 x.kids.length c3))
      replace hE := hid hE
      clear hF hk0 hk hlt hm hk1 hk2 hlf
      rcases a1 with a1 | ⟨a1, a2⟩ <;>
      · skip
        have d0 : wr.cell? ⟨w.heap.size + 1 + 1, 0, none⟩ = some (.bool x.leaf) := (blk_cell hx.out 0).trans rfl
        have d1 : wr.cell? ⟨w.heap.size + 1 + 1, 1, none⟩ = some (.slice A1 x.keys.length c1) := (blk_cell hx.out 1).trans rfl
        have d2 : wr.cell? ⟨w.heap.size + 1 + 1, 2, none⟩ = some (.slice A2 x.vals.length c2) := (blk_cell hx.out 2).trans rfl
        have d3 : wr.cell? ⟨w.heap.size + 1 + 1, 3, none⟩ = some (.slice A3 x.kids.length c3) := (blk_cell hx.out 3).trans rfl
        have e0 : wr.cell? ⟨w.heap.size, 0, none⟩ = some (.bool false) := (blk_cell hr.out 0).trans rfl
        have f0 := blk_frozen hr.out 0
        have e1 : wr.cell? ⟨w.heap.size, 1, none⟩ = some (.slice none 0 0) := (blk_cell hr.out 1).trans rfl
        have f1 := blk_frozen hr.out 1
        have e2 : wr.cell? ⟨w.heap.size, 2, none⟩ = some (.slice none 0 0) := (blk_cell hr.out 2).trans rfl
        have f2 := blk_frozen hr.out 2
        have e3 : wr.cell? ⟨w.heap.size, 3, none⟩ = some (.slice none 0 0) := (blk_cell hr.out 3).trans rfl
        have f3 := blk_frozen hr.out 3
        go_wp2_with fail
        refine bodyPost_ret (results_cell_row rfl _ _ w.heap.size 29 #[.bool x.leaf, .slice A1 x.keys.length c1, .slice A2 x.vals.length c2, .slice A3 x.kids.length c3] (0, 0) _ rfl hZ.out Try.underlying29 rfl (by kernel_rfl)) rfl ?_
        exact ⟨_, rfl, by rw [← hE.out]; exact hAt2.out, hb.out⟩
end Go.Proofs.Ytnghbfegijnolaa.A
