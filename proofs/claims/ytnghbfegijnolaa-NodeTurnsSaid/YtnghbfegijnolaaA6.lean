/-
  What Same and Size answer, plainly.
  nodes.
-/
import Derived.Test.YtnghbfegijnolaaA5
import Derived.Test.YtnghbfegijnolaaPx3
namespace Go.Proofs.Ytnghbfegijnolaa.A
set_option linter.unusedVariables false
set_option linter.unusedSimpArgs false
open Go.RowKit Go.Proofs.YtnghbfegijnolaaW.PrintWords Go.Proofs.YtnghbfegijnolaaW.PrintLast Go.Proofs.YtnghbfegijnolaaW.PrintMore
open Go.Lib (hid)
open Go.Proofs.Ytnghbfegijnolaa.P
def sumS : List ByteArray → Int
  | [] => 0
  | s :: l => s.size + sumS l
theorem sumS_nonneg : ∀ l, 0 ≤ sumS l
  | [] => by simp [sumS]
  | s :: l => by have := sumS_nonneg l; simp only [sumS]; omega
def sizeF (x : Nd) : Int := if x.leaf = true then 1 + 9 * x.keys.length + sumS x.vals else 1 + 8 * x.keys.length + 2 * x.kids.length
theorem wr64 (n : Int) (h0 : -9223372036854775808 ≤ n) (h1 : n < 9223372036854775808) : wrap64 n = n := by unfold wrap64; omega
theorem drop_getD {α : Type} (l : List α) (d : α) (i : Nat) (h : i < l.length) : l.drop i = l.getD i d :: l.drop (i + 1) := by
  rw [List.getD_eq_getElem?_getD, List.getElem?_eq_getElem h]
  exact (List.drop_eq_getElem_cons h)
theorem size_l0 (vs : List ByteArray) (hl : vs.length < 4611686018427387904) : ∀ m i k acc, i + m = vs.length → m < k → 0 ≤ acc → acc + sumS (vs.drop i) < 9223372036854775808 → node_Size.l0 k acc vs (vs.length : Int) (i : Int) = some (acc + sumS (vs.drop i))
  | 0, i, 0, acc, h, hk, _, _ => by omega
  | m, i, k + 1, acc, h, hk, h0, hb => by
    rw [node_Size.l0]
    by_cases hi : i < vs.length
    · rw [if_pos (by omega), if_pos (by omega), if_pos (by omega)]
      have e := drop_getD vs ByteArray.empty i hi
      have e2 : rdOf ByteArray.empty vs (i : Int) = vs.getD i ByteArray.empty := by simp [rdOf]
      rw [e, sumS] at hb ⊢
      have hn := sumS_nonneg (vs.drop (i + 1))
      rw [e2, wr64 (acc + _) (by omega) (by omega), wr64 ((i : Int) + 1) (by omega) (by omega)]
      have := size_l0 vs hl (m - 1) (i + 1) k (acc + (vs.getD i ByteArray.empty).size) (by omega) (by omega) (by omega) (by omega)
      rw [show ((i : Int) + 1) = ((i + 1 : Nat) : Int) by omega, this]
      congr 1
      omega
    · rw [if_neg (by omega), List.drop_eq_nil_of_le (by omega)]
      simp [sumS]
theorem size_eq (x : Nd) (k : Nat) (hk : x.vals.length + 2 ≤ k) (h1 : x.keys.length ≤ 1099511627776) (h2 : x.vals.length ≤ 1099511627776) (h3 : x.kids.length ≤ 1099511627776) (hs : sumS x.vals < 4611686018427387904) : node_Size.f k x.leaf x.keys x.vals x.kids = some (sizeF x) := by
  rw [node_Size.f, sizeF]
  by_cases hl : x.leaf = true
  · rw [if_pos hl, if_pos hl]
    have h := size_l0 x.vals (by omega) x.vals.length 0 k (1 + 9 * x.keys.length) (by omega) (by omega) (by omega) (by rw [List.drop_zero]; omega)
    rw [List.drop_zero] at h
    rw [wr64 (8 * _) (by omega) (by omega), wr64 (1 + _) (by omega) (by omega), wr64 (1 + 8 * _ + _) (by omega) (by omega), show (1 + 8 * (x.keys.length : Int) + x.keys.length) = 1 + 9 * x.keys.length by omega]
    exact h
  · rw [if_neg hl, if_neg hl, wr64 (8 * _) (by omega) (by omega), wr64 (1 + _) (by omega) (by omega), wr64 (2 * _) (by omega) (by omega), wr64 (1 + _ + _) (by omega) (by omega)]
theorem size_walk (x : Nd) (v : Value) (w : World) (H : At w v x) (h1 : x.keys.length ≤ 1099511627776) (h2 : x.vals.length ≤ 1099511627776) (h3 : x.kids.length ≤ 1099511627776) (hs : sumS x.vals < 4611686018427387904) :
    Calls Try.prog 20 #[v] w fun e w' => e = .returned (.int .i64 (sizeF x)) ∧ Below w.heap.size w w' := by
  obtain ⟨A1, c1, A2, c2, A3, c3, rfl, ⟨g1, l1⟩, ⟨g2, l2⟩, ⟨g3, l3⟩⟩ := H
  exact node_Size.calls (x.vals.length + 2) x.leaf A1 c1 x.keys A2 c2 x.vals A3 c3 x.kids (sizeF x) w g1 l1 g2 l2 g3 l3 (size_eq x _ (Nat.le_refl _) h1 h2 h3 hs)
theorem drop_ne {α : Type} [DecidableEq α] (l l' : List α) (d : α) (i : Nat) (h : i < l.length) (h' : i < l'.length) : decide (l.drop i = l'.drop i) = (decide (l.getD i d = l'.getD i d) && decide (l.drop (i + 1) = l'.drop (i + 1))) := by
  rw [← Bool.decide_and]
  exact decide_eq_decide.2 (by rw [drop_getD l d i h, drop_getD l' d i h']; exact List.cons_eq_cons)
theorem same_l2 (a b : Bool) (ks ks' : List Int) (p p' : List ByteArray) (us us' : List Int) (hl : us.length = us'.length) (hb : us.length < 4611686018427387904) : ∀ m i k, i + m = us.length → m < k → bailiwickref10_Same.l2 k (i : Int) a ks p us b ks' p' us' = some (decide (us.drop i = us'.drop i))
  | 0, i, 0, h, hk => by omega
  | m, i, k + 1, h, hk => by
    rw [bailiwickref10_Same.l2]
    by_cases hi : i < us.length
    · rw [if_pos (by omega), if_pos (by omega), if_pos (by omega), drop_ne us us' 0 i hi (by omega)]
      have e1 : rd us (i : Int) = us.getD i 0 := by simp [rd]
      have e2 : rd us' (i : Int) = us'.getD i 0 := by simp [rd]
      rw [e1, e2]
      by_cases he : us.getD i 0 = us'.getD i 0
      · rw [if_pos he, he, wr64 ((i : Int) + 1) (by omega) (by omega), show ((i : Int) + 1) = ((i + 1 : Nat) : Int) by omega, same_l2 a b ks ks' p p' us us' hl hb (m - 1) (i + 1) k (by omega) (by omega)]
        simp
      · rw [if_neg he]
        have : decide (us.getD i 0 = us'.getD i 0) = false := decide_eq_false he
        rw [this]
        rfl
    · rw [if_neg (by omega), List.drop_eq_nil_of_le (by omega), List.drop_eq_nil_of_le (by omega)]
      rfl
theorem toList_inj (a b : ByteArray) : (a.toList = b.toList) = (a = b) := by
  apply propext
  constructor
  · intro h
    have h2 : a.data.toList = b.data.toList := by simpa [ByteArray.toList_eq] using h
    exact ByteArray.ext (Array.toList_inj.1 h2)
  · rintro rfl
    rfl
theorem same_l1 (a b : Bool) (ks ks' : List Int) (p p' : List ByteArray) (us us' : List Int) (hp : p.length = p'.length) (hpb : p.length < 4611686018427387904) (hl : us.length = us'.length) (hb : us.length < 4611686018427387904) : ∀ m i k, i + m = p.length → m + us.length + 1 < k → bailiwickref10_Same.l1 k (i : Int) a ks p us b ks' p' us' = some (decide (p.drop i = p'.drop i) && decide (us = us'))
  | 0, i, 0, h, hk => by omega
  | m, i, k + 1, h, hk => by
    rw [bailiwickref10_Same.l1]
    by_cases hi : i < p.length
    · rw [if_pos (by omega), if_pos (by omega), if_pos (by omega), drop_ne p p' ByteArray.empty i hi (by omega)]
      have e1 : rdOf ByteArray.empty p (i : Int) = p.getD i ByteArray.empty := by simp [rdOf]
      have e2 : rdOf ByteArray.empty p' (i : Int) = p'.getD i ByteArray.empty := by simp [rdOf]
      rw [e1, e2]
      by_cases he : p.getD i ByteArray.empty = p'.getD i ByteArray.empty
      · rw [if_pos (by rw [he]), he, wr64 ((i : Int) + 1) (by omega) (by omega), show ((i : Int) + 1) = ((i + 1 : Nat) : Int) by omega, same_l1 a b ks ks' p p' us us' hp hpb hl hb (m - 1) (i + 1) k (by omega) (by omega)]
        simp
      · rw [if_neg (by rw [toList_inj]; exact he)]
        have : decide (p.getD i ByteArray.empty = p'.getD i ByteArray.empty) = false := decide_eq_false he
        rw [this]
        rfl
    · rw [if_neg (by omega), List.drop_eq_nil_of_le (by omega), List.drop_eq_nil_of_le (by omega)]
      have h2 := same_l2 a b ks ks' p p' us us' hl hb us.length 0 k (by omega) (by omega)
      rw [List.drop_zero, List.drop_zero] at h2
      exact h2
theorem same_l0 (a b : Bool) (ks ks' : List Int) (p p' : List ByteArray) (us us' : List Int) (hk0 : ks.length = ks'.length) (hkb : ks.length < 4611686018427387904) (hp : p.length = p'.length) (hpb : p.length < 4611686018427387904) (hl : us.length = us'.length) (hb : us.length < 4611686018427387904) : ∀ m i k, i + m = ks.length → m + p.length + us.length + 2 < k → bailiwickref10_Same.l0 k (i : Int) a ks p us b ks' p' us' = some (decide (ks.drop i = ks'.drop i) && (decide (p = p') && decide (us = us')))
  | 0, i, 0, h, hk => by omega
  | m, i, k + 1, h, hk => by
    rw [bailiwickref10_Same.l0]
    by_cases hi : i < ks.length
    · rw [if_pos (by omega), if_pos (by omega), if_pos (by omega), drop_ne ks ks' 0 i hi (by omega)]
      have e1 : rd ks (i : Int) = ks.getD i 0 := by simp [rd]
      have e2 : rd ks' (i : Int) = ks'.getD i 0 := by simp [rd]
      rw [e1, e2]
      by_cases he : ks.getD i 0 = ks'.getD i 0
      · rw [if_pos he, he, wr64 ((i : Int) + 1) (by omega) (by omega), show ((i : Int) + 1) = ((i + 1 : Nat) : Int) by omega, same_l0 a b ks ks' p p' us us' hk0 hkb hp hpb hl hb (m - 1) (i + 1) k (by omega) (by omega)]
        simp
      · rw [if_neg he]
        have : decide (ks.getD i 0 = ks'.getD i 0) = false := decide_eq_false he
        rw [this]
        rfl
    · rw [if_neg (by omega), List.drop_eq_nil_of_le (by omega), List.drop_eq_nil_of_le (by omega)]
      have h2 := same_l1 a b ks ks' p p' us us' hp hpb hl hb p.length 0 k (by omega) (by omega)
      rw [List.drop_zero, List.drop_zero] at h2
      exact h2
def sameB (x y : Nd) : Bool := decide (x.leaf = y.leaf) && (decide (x.keys = y.keys) && (decide (x.vals = y.vals) && decide (x.kids = y.kids)))
theorem beq_len {α : Type} [DecidableEq α] {l l' : List α} (h : ¬ l.length = l'.length) : decide (l = l') = false := decide_eq_false (fun e => h (by rw [e]))
theorem same_eq (x y : Nd) (k : Nat) (hk : x.keys.length + x.vals.length + x.kids.length + 4 ≤ k) (h1 : x.keys.length ≤ 1099511627776) (h2 : x.vals.length ≤ 1099511627776) (h3 : x.kids.length ≤ 1099511627776) : bailiwickref10_Same.f k x.leaf x.keys x.vals x.kids y.leaf y.keys y.vals y.kids = some (sameB x y) := by
  obtain ⟨k, rfl⟩ : ∃ j, k = j + 1 := ⟨k - 1, by omega⟩
  rw [bailiwickref10_Same.f, sameB]
  by_cases hl : (x.leaf != y.leaf) = true
  · rw [if_pos hl, bailiwickref10_Same.j0, if_pos rfl]
    have : decide (x.leaf = y.leaf) = false := by cases h : x.leaf <;> cases h' : y.leaf <;> simp [h, h'] at hl ⊢
    rw [this]
    rfl
  · rw [if_neg hl]
    have e0 : decide (x.leaf = y.leaf) = true := by cases h : x.leaf <;> cases h' : y.leaf <;> simp [h, h'] at hl ⊢
    rw [e0]
    by_cases c1 : x.keys.length = y.keys.length
    · rw [if_pos (by omega)]
      by_cases c2 : x.vals.length = y.vals.length
      · rw [if_pos (by omega)]
        by_cases c3 : x.kids.length = y.kids.length
        · have e : ((x.kids.length : Int) != (y.kids.length : Int)) = false := by rw [c3]; simp
          rw [e, bailiwickref10_Same.j0, if_neg (by decide)]
          have h := same_l0 x.leaf y.leaf x.keys y.keys x.vals y.vals x.kids y.kids c1 (by omega) c2 (by omega) c3 (by omega) x.keys.length 0 k (by omega) (by omega)
          rw [List.drop_zero, List.drop_zero] at h
          rw [Bool.true_and]
          exact h
        · have e : ((x.kids.length : Int) != (y.kids.length : Int)) = true := by simp; omega
          rw [e, bailiwickref10_Same.j0, if_pos rfl, beq_len c3]
          simp
      · rw [if_neg (by omega), bailiwickref10_Same.j0, if_pos rfl, beq_len c2]
        simp
    · rw [if_neg (by omega), bailiwickref10_Same.j0, if_pos rfl, beq_len c1]
      simp
theorem same_walk (x y : Nd) (v u : Value) (w : World) (H : At w v x) (H' : At w u y) (h1 : x.keys.length ≤ 1099511627776) (h2 : x.vals.length ≤ 1099511627776) (h3 : x.kids.length ≤ 1099511627776) :
    Calls Try.prog 37 #[v, u] w fun e w' => e = .returned (.bool (sameB x y)) ∧ Below w.heap.size w w' := by
  obtain ⟨A1, c1, A2, c2, A3, c3, rfl, ⟨g1, l1⟩, ⟨g2, l2⟩, ⟨g3, l3⟩⟩ := H
  obtain ⟨B1, d1, B2, d2, B3, d3, rfl, ⟨k1, m1⟩, ⟨k2, m2⟩, ⟨k3, m3⟩⟩ := H'
  exact bailiwickref10_Same.calls (x.keys.length + x.vals.length + x.kids.length + 4) x.leaf A1 c1 x.keys A2 c2 x.vals A3 c3 x.kids y.leaf B1 d1 y.keys B2 d2 y.vals B3 d3 y.kids (sameB x y) w g1 l1 g2 l2 g3 l3 k1 m1 k2 m2 k3 m3 (same_eq x y _ (Nat.le_refl _) h1 h2 h3)
theorem same_refl (x : Nd) : sameB x x = true := by simp [sameB]
end Go.Proofs.Ytnghbfegijnolaa.A
namespace Go.Proofs.Ytnghbfegijnolaa.A
set_option linter.unusedVariables false
set_option linter.unusedSimpArgs false
open Go.RowKit Go.Proofs.YtnghbfegijnolaaW.PrintWords Go.Proofs.YtnghbfegijnolaaW.PrintLast Go.Proofs.YtnghbfegijnolaaW.PrintMore
open Go.Lib (hid)
set_option maxHeartbeats 1000000 in
set_option maxRecDepth 100000 in
theorem nodes_walk (x y : Nd) (v u : Value) (w : World) (H : At w v x) (H' : At w u y) (k1 : x.keys.length ≤ 1099511627776) (k2 : x.vals.length ≤ 1099511627776) (k3 : x.kids.length ≤ 1099511627776) :
    Calls Try.prog 14 #[v, u] w fun e w' => e = .returned (.bool (sameB x y)) ∧ Below w.heap.size w w' := by
  obtain ⟨A1, c1, A2, c2, A3, c3, rfl, ⟨h1, l1⟩, ⟨h2, l2⟩, ⟨h3, l3⟩⟩ := H
  obtain ⟨B1, e1, B2, e2, B3, e3, rfl, ⟨g1, m1⟩, ⟨g2, m2⟩, ⟨g3, m3⟩⟩ := H'
  have HX := hid (fun W (hb : Below w.heap.size w W) => ref_walk x _ W (At.mk_ (Kd.C_below h1 hb) l1 (Kd.C_below h2 hb) l2 (Kd.C_below h3 hb) l3))
  have HY := hid (fun W (hb : Below w.heap.size w W) => At.mk_ (x := y) (Kd.C_below g1 hb) m1 (Kd.C_below g2 hb) m2 (Kd.C_below g3 hb) m3)
  have HS := hid (fun v u W (p : At W v x) (q : At W u y) => same_walk x y v u W p q k1 k2 k3)
  have hx : Hid (((w.alloc (.cells #[.bool x.leaf, .slice A1 x.keys.length c1, .slice A2 x.vals.length c2, .slice A3 x.kids.length c3] 29)).alloc (.cells #[.bool y.leaf, .slice B1 y.keys.length e1, .slice B2 y.vals.length e2, .slice B3 y.kids.length e3] 36)).heap[w.heap.size]? = some (.cells #[.bool x.leaf, .slice A1 x.keys.length c1, .slice A2 x.vals.length c2, .slice A3 x.kids.length c3] 29 (0, 0))) := hid (alloc2_fst w _ _)
  have hy : Hid (((w.alloc (.cells #[.bool x.leaf, .slice A1 x.keys.length c1, .slice A2 x.vals.length c2, .slice A3 x.kids.length c3] 29)).alloc (.cells #[.bool y.leaf, .slice B1 y.keys.length e1, .slice B2 y.vals.length e2, .slice B3 y.kids.length e3] 36)).heap[w.heap.size + 1]? = some (.cells #[.bool y.leaf, .slice B1 y.keys.length e1, .slice B2 y.vals.length e2, .slice B3 y.kids.length e3] 36 (0, 0))) := hid (alloc2_snd w _ _)
  have hB := hid (below_alloc (below_alloc (Below.refl w.heap.size w) (.cells #[.bool x.leaf, .slice A1 x.keys.length c1, .slice A2 x.vals.length c2, .slice A3 x.kids.length c3] 29)) (.cells #[.bool y.leaf, .slice B1 y.keys.length e1, .slice B2 y.vals.length e2, .slice B3 y.kids.length e3] 36))
  clear h1 h2 h3 l1 l2 l3 g1 g2 g3 m1 m2 m3 k1 k2 k3
  go_enter Try.func14, Try.ntmps14
  go_upto_region 1 with fail
  generalize (w.alloc (.cells #[.bool x.leaf, .slice A1 x.keys.length c1, .slice A2 x.vals.length c2, .slice A3 x.kids.length c3] 29)).alloc (.cells #[.bool y.leaf, .slice B1 y.keys.length e1, .slice B2 y.vals.length e2, .slice B3 y.kids.length e3] 36) = w1 at *
  have d0 : w1.cell? ⟨w.heap.size, 0, none⟩ = some (.bool x.leaf) := (blk_cell hx.out 0).trans rfl
  have d1 : w1.cell? ⟨w.heap.size, 1, none⟩ = some (.slice A1 x.keys.length c1) := (blk_cell hx.out 1).trans rfl
  have d2 : w1.cell? ⟨w.heap.size, 2, none⟩ = some (.slice A2 x.vals.length c2) := (blk_cell hx.out 2).trans rfl
  have d3 : w1.cell? ⟨w.heap.size, 3, none⟩ = some (.slice A3 x.kids.length c3) := (blk_cell hx.out 3).trans rfl
  have f0 : w1.cell? ⟨w.heap.size + 1, 0, none⟩ = some (.bool y.leaf) := (blk_cell hy.out 0).trans rfl
  have f1 : w1.cell? ⟨w.heap.size + 1, 1, none⟩ = some (.slice B1 y.keys.length e1) := (blk_cell hy.out 1).trans rfl
  have f2 : w1.cell? ⟨w.heap.size + 1, 2, none⟩ = some (.slice B2 y.vals.length e2) := (blk_cell hy.out 2).trans rfl
  have f3 : w1.cell? ⟨w.heap.size + 1, 3, none⟩ = some (.slice B3 y.kids.length e3) := (blk_cell hy.out 3).trans rfl
  refine start_ (n := 5) (S := fun w' => Below w1.heap.size w1 w') (ds := []) #[false, false, false, false, false] (by kernel_rfl) rfl rfl (below_drew (Below.refl _ _)) (fun hHeld => ?_)
  refine take_ (i := 0) (N := some 5) (v := ?_) (a' := ?_) #[true, false, false, false, false] rfl rfl (by kernel_rfl) (fun _ _ _ h => h) (Or.inl ⟨by rfl, ?_⟩) hHeld ?_ ?_
  rotate_left
  · rintro w' hb'
    have dd0 := pw_cell_below hb' d0
    have dd1 := pw_cell_below hb' d1
    have dd2 := pw_cell_below hb' d2
    have dd3 := pw_cell_below hb' d3
    go_simp
    with_reducible rfl
  rotate_left
  · simp only [Act.put, List.setIfInBounds_toArray, List.set_cons_zero, List.set_cons_succ, i64_w, i32_w]
    rfl
  refine take_ (i := 2) (N := some 7) (v := ?_) (a' := ?_) #[true, false, true, false, false] rfl rfl (by kernel_rfl) (fun _ _ _ h => h) (Or.inl ⟨by rfl, ?_⟩) hHeld ?_ ?_
  rotate_left
  · rintro w' hb'
    have dd0 := pw_cell_below hb' f0
    have dd1 := pw_cell_below hb' f1
    have dd2 := pw_cell_below hb' f2
    have dd3 := pw_cell_below hb' f3
    go_simp
    with_reducible rfl
  rotate_left
  · simp only [Act.put, List.setIfInBounds_toArray, List.set_cons_zero, List.set_cons_succ, i64_w, i32_w]
    rfl
  refine one_ (i := 1) (N := some 6) #[true, true, true, false, false] rfl rfl (by kernel_rfl) (by decide) (fun K hK => ?_)
  refine goes_ Try.func16 (by kernel_rfl) rfl #[.agg #[.bool x.leaf, .slice A1 x.keys.length c1, .slice A2 x.vals.length c2, .slice A3 x.kids.length c3]] (by rfl) rfl rfl (by (try simp only [List.map_toArray, List.map_cons, List.map_nil]); first | done | rfl) ?_
  refine (HX.out _ (below_drew hB.out)).mono ?_
  rintro r w2 ⟨v2, rfl, q1, q2⟩
  replace q1 := hid q1
  have s2 := below_then (below_drew (Below.refl _ _)) (Nat.le_refl _) q2
  have t2 := hid (below_then (below_drew hB.out) (below_drew hB.out).size q2)
  refine ⟨_, rfl, ?_⟩
  refine hK.out _ _ s2 (fun hHeld => ?_)
  clear hK K
  refine norm_ (a' := ?_) ?_ ?_
  rotate_left
  · show Act.put _ (some 6) _ = _
    simp only [Act.put, List.setIfInBounds_toArray, List.set_cons_zero, List.set_cons_succ, i64_w, i32_w]
    rfl
  refine one_ (i := 3) (N := some 8) #[true, true, true, true, false] rfl rfl (by kernel_rfl) (by decide) (fun K hK => ?_)
  refine goes_ Try.func37 (by kernel_rfl) rfl #[v2, .agg #[.bool y.leaf, .slice B1 y.keys.length e1, .slice B2 y.vals.length e2, .slice B3 y.kids.length e3]] (by rfl) rfl rfl (by (try simp only [List.map_toArray, List.map_cons, List.map_nil]); first | done | rfl) ?_
  refine (HS.out _ _ _ q1.out (HY.out _ t2.out)).mono ?_
  rintro r w3 ⟨rfl, q3⟩
  have s3 := below_then s2 s2.size q3
  have t3 := hid (below_then t2.out t2.out.size q3)
  refine ⟨_, rfl, ?_⟩
  refine hK.out _ _ s3 (fun hHeld => ?_)
  clear hK K
  refine norm_ (a' := ?_) ?_ ?_
  rotate_left
  · show Act.put _ (some 8) _ = _
    simp only [Act.put, List.setIfInBounds_toArray, List.set_cons_zero, List.set_cons_succ, i64_w, i32_w]
    rfl
  refine pure_ (i := 4) (N := some 4) (v := ?_) (a' := ?_) #[true, true, true, true, true] rfl rfl (by kernel_rfl) (fun _ _ _ h => h) (Or.inl ⟨by rfl, ?_⟩) ?_ ?_
  rotate_left
  · intro w'
    go_simp
    with_reducible rfl
  rotate_left
  · simp only [Act.put, List.setIfInBounds_toArray, List.set_cons_zero, List.set_cons_succ, i64_w, i32_w]
    rfl
  refine done_ (by kernel_rfl) ?_
  go_wp2_with fail
  go_ret
  exact ⟨rfl, t3.out⟩
end Go.Proofs.Ytnghbfegijnolaa.A
