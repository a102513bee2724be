/-
  grow.
-/
import Derived.Test.YtnghbfegijnolaaA6
namespace Go.Proofs.Ytnghbfegijnolaa.A
set_option linter.unusedVariables false
set_option linter.unusedSimpArgs false
open Go.RowKit Go.Proofs.YtnghbfegijnolaaW.PrintWords Go.Proofs.YtnghbfegijnolaaW.PrintLast Go.Proofs.YtnghbfegijnolaaW.PrintMore
open Go.Lib (hid)
theorem C_ne {α : Type} {enc : α → Value} {h1 : ∀ x, (enc x).oneCell' = true} {w : World} {A : Option Addr} {n : Nat} {xs : List α} {g t : Nat} {b : Bool} {a1 a2 a3 : Option Addr} {n1 n2 n3 c1 c2 c3 : Nat} (hb0 : ∀ x b, enc x ≠ .bool b) (hs0 : ∀ x a n c, enc x ≠ .slice a n c)
    (h : (Kd.scalar enc h1).C w A n xs) (hb : w.heap[g]? = some (.cells #[.bool b, .slice a1 n1 c1, .slice a2 n2 c2, .slice a3 n3 c3] t (0, 0))) : n = 0 ∨ ∀ ad, A = some ad → ad.block ≠ g := by
  rcases Nat.eq_zero_or_pos n with h0 | hp
  · exact .inl h0
  · refine .inr fun ad e he => ?_
    subst e
    have hl : 0 < xs.length := by have := h.1; omega
    obtain ⟨ad', e', hc⟩ := C_one h xs[0] 0 hl
    injection e' with e'
    subst e'
    have ha : (ad.add 0).block = g := by rw [← he]; unfold Addr.add; split <;> rfl
    have hh : w.heap[(ad.add 0).block]? = some (.cells #[.bool b, .slice a1 n1 c1, .slice a2 n2 c2, .slice a3 n3 c3] t (0, 0)) := by rw [ha]; exact hb
    generalize ad.add 0 = q at hc hh
    unfold World.cell? at hc
    rw [hh] at hc
    simp only at hc
    split at hc
    · cases hc
    · rcases hq : q.off with _ | _ | _ | _ | m
      · rw [hq] at hc; exact hb0 _ b (Option.some.inj hc).symm
      · rw [hq] at hc; exact hs0 _ a1 n1 c1 (Option.some.inj hc).symm
      · rw [hq] at hc; exact hs0 _ a2 n2 c2 (Option.some.inj hc).symm
      · rw [hq] at hc; exact hs0 _ a3 n3 c3 (Option.some.inj hc).symm
      · rw [hq] at hc; simp at hc
def set4 (w : World) (g : Nat) (v0 v1 v2 v3 : Value) : World := (((w.setCell ⟨g, 0, none⟩ v0).setCell ⟨g, 1, none⟩ v1).setCell ⟨g, 2, none⟩ v2).setCell ⟨g, 3, none⟩ v3
theorem C_set4 {α : Type} {enc : α → Value} {h1 : ∀ x, (enc x).oneCell' = true} {w : World} {A : Option Addr} {n : Nat} {xs : List α} {g t : Nat} {b : Bool} {a1 a2 a3 : Option Addr} {n1 n2 n3 c1 c2 c3 : Nat} (hb0 : ∀ x b, enc x ≠ .bool b) (hs0 : ∀ x a n c, enc x ≠ .slice a n c)
    (h : (Kd.scalar enc h1).C w A n xs) (hb : w.heap[g]? = some (.cells #[.bool b, .slice a1 n1 c1, .slice a2 n2 c2, .slice a3 n3 c3] t (0, 0))) (v0 v1 v2 v3 : Value) : (Kd.scalar enc h1).C (set4 w g v0 v1 v2 v3) A n xs := by
  rcases C_ne hb0 hs0 h hb with rfl | hf
  · exact ⟨h.1, h.2.1, fun hn => absurd hn (Nat.lt_irrefl 0)⟩
  · exact C_far1 (C_far1 (C_far1 (C_far1 h hf 0 v0) hf 1 v1) hf 2 v2) hf 3 v3
theorem At.set4 {w : World} {v : Value} {x : Nd} (H : At w v x) {g t : Nat} {b : Bool} {a1 a2 a3 : Option Addr} {n1 n2 n3 d1 d2 d3 : Nat} (hb : w.heap[g]? = some (.cells #[.bool b, .slice a1 n1 d1, .slice a2 n2 d2, .slice a3 n3 d3] t (0, 0))) (v0 v1 v2 v3 : Value) : At (set4 w g v0 v1 v2 v3) v x := by
  obtain ⟨A1, c1, A2, c2, A3, c3, e, ⟨h1, l1⟩, ⟨h2, l2⟩, ⟨h3, l3⟩⟩ := H
  have z1 : ∀ (x : Int) (b : Bool), Value.int .u64 x ≠ .bool b := by intro x b h; cases h
  have z2 : ∀ (x : Int) (a : Option Addr) (n c : Nat), Value.int .u64 x ≠ .slice a n c := by intro x a n c h; cases h
  have z3 : ∀ (x : Int) (b : Bool), Value.int .i64 x ≠ .bool b := by intro x b h; cases h
  have z4 : ∀ (x : Int) (a : Option Addr) (n c : Nat), Value.int .i64 x ≠ .slice a n c := by intro x a n c h; cases h
  have z5 : ∀ (x : ByteArray) (b : Bool), Value.string x ≠ .bool b := by intro x b h; cases h
  have z6 : ∀ (x : ByteArray) (a : Option Addr) (n c : Nat), Value.string x ≠ .slice a n c := by intro x a n c h; cases h
  exact ⟨A1, c1, A2, c2, A3, c3, e, ⟨C_set4 z1 z2 h1 hb v0 v1 v2 v3, l1⟩, ⟨C_set4 z5 z6 h2 hb v0 v1 v2 v3, l2⟩, ⟨C_set4 z3 z4 h3 hb v0 v1 v2 v3, l3⟩⟩
theorem set4_at {w : World} {g t : Nat} {u0 u1 u2 u3 : Value} (hb : w.heap[g]? = some (.cells #[u0, u1, u2, u3] t (0, 0))) (v0 v1 v2 v3 : Value) : (set4 w g v0 v1 v2 v3).heap[g]? = some (.cells #[v0, v1, v2, v3] t (0, 0)) :=
  blk_set (blk_set (blk_set (blk_set hb 0 v0) 1 v1) 2 v2) 3 v3
theorem set4_below {w W : World} (h : Below w.heap.size w W) {g : Nat} (hg : w.heap.size ≤ g) (v0 v1 v2 v3 : Value) : Below w.heap.size w (set4 W g v0 v1 v2 v3) :=
  below_set (below_set (below_set (below_set h hg 0 v0) hg 1 v1) hg 2 v2) hg 3 v3
theorem set4_far {w : World} {g k : Nat} (hk : k ≠ g) (v0 v1 v2 v3 : Value) : (set4 w g v0 v1 v2 v3).heap[k]? = w.heap[k]? :=
  (Below.heap_setCell _ ⟨g, 3, none⟩ v3 k hk).trans ((Below.heap_setCell _ ⟨g, 2, none⟩ v2 k hk).trans ((Below.heap_setCell _ ⟨g, 1, none⟩ v1 k hk).trans (Below.heap_setCell _ ⟨g, 0, none⟩ v0 k hk)))
/-- A pair in its row: its two cells. -/
theorem P_at {w : World} {A : Option Addr} {n : Nat} {ps : List (Int × ByteArray)} (h : (Kd.pair (Kd.int .u64) Kd.string).C w A n ps) (i : Nat) (hi : i < ps.length) : ∃ ad, A = some ad ∧ w.cell? (ad.add (i * 2)) = some (.int .u64 (ps.getD i (0, ⟨#[]⟩)).1) ∧ w.cell? ⟨(ad.add (i * 2)).block, (ad.add (i * 2)).off + 1, none⟩ = some (.string (ps.getD i (0, ⟨#[]⟩)).2) := by
  obtain ⟨ad, c, e, hl, hr, hc⟩ := ReadsRow.get_ h (0, ⟨#[]⟩) i (by omega) (by have := h.1; omega)
  obtain ⟨a0, a1, e0, r0, r1⟩ := hr
  have r0' : a0 = [.int .u64 (ps.getD (i : Int).toNat (0, ⟨#[]⟩)).1] := r0
  have r1' : a1 = [.string (ps.getD (i : Int).toNat (0, ⟨#[]⟩)).2] := r1
  subst r0'
  subst r1'
  subst e0
  have h2 := hc 1 _ rfl
  rw [show (i : Int).toNat * (Kd.pair (Kd.int .u64) Kd.string).sz + 1 = i * 2 + 1 from rfl, add_field ad (i * 2) 1 (by omega)] at h2
  exact ⟨ad, e, hc 0 _ rfl, h2⟩
def cut40 (s : ByteArray) : ByteArray := s.extract 0 (min s.size 40)
def growStep (x : Nd) (p : Int × ByteArray) : Nd := putF x p.1 (cut40 p.2)
def growF (ps : List (Int × ByteArray)) : Nd := (ps.take 20).foldl growStep ⟨true, [], [], []⟩
theorem laidF_len {α : Type} (l more : List α) (a g : Nat) : (laidF l more a g).length ≤ l.length + more.length := by
  simp only [laidF, List.length_append, List.length_take, List.length_drop]
  omega
theorem grow_len (x : Nd) (p : Int × ByteArray) (k : Nat) (h1 : x.keys.length ≤ k) (h2 : x.vals.length ≤ k) : (growStep x p).keys.length ≤ k + 1 ∧ (growStep x p).vals.length ≤ k + 1 := by
  unfold growStep putF
  split
  · have e1 := laidF_len x.keys [p.1] (place x.keys p.1) (goneF (isAt x.keys p.1))
    have e2 := laidF_len x.vals [cut40 p.2] (place x.keys p.1) (goneF (isAt x.keys p.1))
    simp only [List.length_singleton] at e1 e2
    exact ⟨by show (laidF _ _ _ _).length ≤ _; omega, by show (laidF _ _ _ _).length ≤ _; omega⟩
  · exact ⟨by omega, by omega⟩
theorem drop_take_step {α : Type} (l : List α) (d : α) (k g : Nat) (h : k < l.length) : (l.drop k).take (g + 1) = l.getD k d :: (l.drop (k + 1)).take g := by
  rw [drop_getD l d k h, List.take_succ_cons]
set_option maxHeartbeats 1000000 in
set_option maxRecDepth 100000 in
theorem grow_walk (ps : List (Int × ByteArray)) (A : Option Addr) (c : Nat) (w : World) (H : (Kd.pair (Kd.int .u64) Kd.string).C w A ps.length ps) :
    Calls Try.prog 17 #[.slice A ps.length c] w fun e w' => ∃ v', e = .returned v' ∧ At w' v' (growF ps) ∧ Below w.heap.size w w' := by
  have HP := hid (fun i hi => P_at H i hi)
  generalize hn : ps.length = n at *
  replace hn := hid hn
  clear H
  go_enter Try.func17, Try.ntmps17
  have hr : Hid (((w.alloc (.cells #[.bool false, .slice none 0 0, .slice none 0 0, .slice none 0 0] 29)).alloc (.cells #[.bool true, .slice none 0 0, .slice none 0 0, .slice none 0 0] 29)).heap[w.heap.size]? = some (.cells #[.bool false, .slice none 0 0, .slice none 0 0, .slice none 0 0] 29 (0, 0))) := hid (alloc2_fst w _ _)
  have hx : Hid (((w.alloc (.cells #[.bool false, .slice none 0 0, .slice none 0 0, .slice none 0 0] 29)).alloc (.cells #[.bool true, .slice none 0 0, .slice none 0 0, .slice none 0 0] 29)).heap[w.heap.size + 1]? = some (.cells #[.bool true, .slice none 0 0, .slice none 0 0, .slice none 0 0] 29 (0, 0))) := hid (alloc2_snd w _ _)
  have hB := hid (below_alloc (below_alloc (Below.refl w.heap.size w) (.cells #[.bool false, .slice none 0 0, .slice none 0 0, .slice none 0 0] 29)) (.cells #[.bool true, .slice none 0 0, .slice none 0 0, .slice none 0 0] 29))
  obtain ⟨m, hm⟩ : ∃ m, m = min 20 n := ⟨_, rfl⟩
  have hg : Hid (List.foldl growStep ⟨true, [], [], []⟩ ((ps.drop 0).take m) = growF ps) := hid (by rw [List.drop_zero, growF]; congr 1; rw [hm, ← hn.out]; rcases Nat.le_total 20 ps.length with h | h; rw [Nat.min_eq_left h]; rw [Nat.min_eq_right h, List.take_of_length_le h, List.take_of_length_le (Nat.le_refl _)])
  go_upto_region 2 with fail
  generalize (w.alloc (.cells #[.bool false, .slice none 0 0, .slice none 0 0, .slice none 0 0] 29)).alloc (.cells #[.bool true, .slice none 0 0, .slice none 0 0, .slice none 0 0] 29) = w1 at *
  go_wp2_with fail
  go_loopg [4] m (fun g i wr => ∃ (k : Nat) (x : Nd) (A1 A2 A3 : Option Addr) (c1 c2 c3 : Nat), i = .int .i64 (k : Int) ∧ k + g = m ∧ Hid (Below w.heap.size w wr) ∧ Hid (wr.heap[w.heap.size]? = some (.cells #[.bool false, .slice none 0 0, .slice none 0 0, .slice none 0 0] 29 (0, 0))) ∧ Hid (wr.heap[w.heap.size + 1]? = some (.cells #[.bool x.leaf, .slice A1 x.keys.length c1, .slice A2 x.vals.length c2, .slice A3 x.kids.length c3] 29 (0, 0))) ∧ Hid (At wr (.agg #[.bool x.leaf, .slice A1 x.keys.length c1, .slice A2 x.vals.length c2, .slice A3 x.kids.length c3]) x) ∧ Hid (List.foldl growStep x ((ps.drop k).take g) = growF ps) ∧ x.keys.length ≤ k ∧ x.vals.length ≤ k)
  case atStart => exact ⟨0, ⟨true, [], [], []⟩, none, none, none, 0, 0, 0, rfl, by omega, hB, hr, hx, hid (At.mk_ (x := ⟨true, [], [], []⟩) (Kd.C_nil _ _) (Nat.le_refl _) (Kd.C_nil _ _) (Nat.le_refl _) (Kd.C_nil _ _) (Nat.le_refl _)), hg, Nat.le_refl _, Nat.le_refl _⟩
  case round =>
    clear hr hx hB hg
    obtain ⟨k, x, A1, A2, A3, c1, c2, c3, rfl, hk, hB, hr, hx, hAt, hF, hk1, hk2⟩ := hrel
    by_cases hlt : k < m
    · cases gk with
      | zero => omega
      | succ g =>
        have a1 : (k : Int) < (n : Int) := by omega
        have a2 : (k : Int) < 20 := by omega
        obtain ⟨ad, hA, hc1, hc2⟩ := HP.out k (by omega)
        subst hA
        have hF2 := hF.out
        rw [drop_take_step ps (0, ⟨#[]⟩) k g (by rw [hn.out]; omega), List.foldl_cons] at hF2
        generalize ps.getD k (0, ⟨#[]⟩) = pr at hc1 hc2 hF2
        obtain ⟨key, s⟩ := pr
        simp only at hc1 hc2
        have hlen := hid (grow_len x (key, s) k hk1 hk2)
        replace hF2 := hid hF2
        have hc1' := hid (pw_cell_below hB.out hc1)
        have hc2' := hid (pw_cell_below hB.out hc2)
        have hP := hid (fun W H => put_walk x (.agg #[.bool x.leaf, .slice A1 x.keys.length c1, .slice A2 x.vals.length c2, .slice A3 x.kids.length c3]) key (cut40 s) W H (by omega) (by omega))
        clear hF hc1 hc2 hk1 hk2
        by_cases hs : 40 < (s.size : Int)
        · have hcut : s.extract 0 40 = cut40 s := by rw [cut40, Nat.min_eq_right (by omega)]
          have hs40 : 40 ≤ (s.size : Int) := by omega
          have hP2 := hP
          have hF3 := hF2
          have hlen3 := hlen
          replace hcut := hid hcut
          have d0 : wr.cell? ⟨w.heap.size + 1, 0, none⟩ = some (.bool x.leaf) := (blk_cell hx.out 0).trans rfl
          have d1 : wr.cell? ⟨w.heap.size + 1, 1, none⟩ = some (.slice A1 x.keys.length c1) := (blk_cell hx.out 1).trans rfl
          have d2 : wr.cell? ⟨w.heap.size + 1, 2, none⟩ = some (.slice A2 x.vals.length c2) := (blk_cell hx.out 2).trans rfl
          have d3 : wr.cell? ⟨w.heap.size + 1, 3, none⟩ = some (.slice A3 x.kids.length c3) := (blk_cell hx.out 3).trans rfl
          go_upto_region 5 with fail
          refine start_ (n := 21) (S := fun w' => Below wr.heap.size wr w') (ds := [20]) #[false, false, false, false, false, false, false, false, false, false, false, false, false, false, false, false, false, false, false, false, false] (by kernel_rfl) rfl rfl (below_drew (Below.refl _ _)) (fun hHeld => ?_)
          refine take_ (i := 0) (N := some 16) (v := ?_) (a' := ?_) #[true, false, false, false, false, false, false, false, false, false, false, false, false, false, false, false, false, false, false, false, false] rfl rfl (by kernel_rfl) (fun _ _ _ h => h) (Or.inl ⟨by rfl, ?_⟩) hHeld ?_ ?_
          rotate_left
          · rintro w' hb'
            have dd0 := pw_cell_below hb' d0
            have dd1 := pw_cell_below hb' d1
            have dd2 := pw_cell_below hb' d2
            have dd3 := pw_cell_below hb' d3
            go_simp
            with_reducible rfl
          rotate_left
          · simp only [Act.put, List.setIfInBounds_toArray, List.set_cons_zero, List.set_cons_succ, i64_w, i32_w]
            rfl
          refine pure_ (i := 1) (N := some 17) (v := ?_) (a' := ?_) #[true, true, false, false, false, false, false, false, false, false, false, false, false, false, false, false, false, false, false, false, false] rfl rfl (by kernel_rfl) (fun _ _ _ h => h) (Or.inl ⟨by rfl, ?_⟩) ?_ ?_
          rotate_left
          · intro w'
            go_simp
            with_reducible rfl
          rotate_left
          · simp only [Act.put, List.setIfInBounds_toArray, List.set_cons_zero, List.set_cons_succ, i64_w, i32_w]
            rfl
          refine pure_ (i := 2) (N := some 18) (v := ?_) (a' := ?_) #[true, true, true, false, false, false, false, false, false, false, false, false, false, false, false, false, false, false, false, false, false] rfl rfl (by kernel_rfl) (fun _ _ _ h => h) (Or.inl ⟨by rfl, ?_⟩) ?_ ?_
          rotate_left
          · intro w'
            go_simp
            with_reducible rfl
          rotate_left
          · simp only [Act.put, List.setIfInBounds_toArray, List.set_cons_zero, List.set_cons_succ, i64_w, i32_w]
            rfl
          refine pure_ (i := 3) (N := some 19) (v := ?_) (a' := ?_) #[true, true, true, true, false, false, false, false, false, false, false, false, false, false, false, false, false, false, false, false, false] rfl rfl (by kernel_rfl) (fun _ _ _ h => h) (Or.inl ⟨by rfl, ?_⟩) ?_ ?_
          rotate_left
          · intro w'
            go_simp
            with_reducible rfl
          rotate_left
          · simp only [Act.put, List.setIfInBounds_toArray, List.set_cons_zero, List.set_cons_succ, i64_w, i32_w]
            rfl
          refine pure_ (i := 4) (N := some 20) (v := ?_) (a' := ?_) #[true, true, true, true, true, false, false, false, false, false, false, false, false, false, false, false, false, false, false, false, false] rfl rfl (by kernel_rfl) (fun _ _ _ h => h) (Or.inl ⟨by rfl, ?_⟩) ?_ ?_
          rotate_left
          · intro w'
            go_simp
            with_reducible rfl
          rotate_left
          · simp only [Act.put, List.setIfInBounds_toArray, List.set_cons_zero, List.set_cons_succ, i64_w, i32_w]
            rfl
          refine take_ (i := 5) (N := some 21) (v := ?_) (a' := ?_) #[true, true, true, true, true, true, false, false, false, false, false, false, false, false, false, false, false, false, false, false, false] rfl rfl (by kernel_rfl) (fun _ _ _ h => h) (Or.inl ⟨by rfl, ?_⟩) hHeld ?_ ?_
          rotate_left
          · rintro w' hb'
            have dd := pw_cell_below hb' hc1'.out
            go_simp
            with_reducible rfl
          rotate_left
          · simp only [Act.put, List.setIfInBounds_toArray, List.set_cons_zero, List.set_cons_succ, i64_w, i32_w]
            rfl
          refine pure_ (i := 6) (N := some 22) (v := ?_) (a' := ?_) #[true, true, true, true, true, true, true, false, false, false, false, false, false, false, false, false, false, false, false, false, false] rfl rfl (by kernel_rfl) (fun _ _ _ h => h) (Or.inl ⟨by rfl, ?_⟩) ?_ ?_
          rotate_left
          · intro w'
            go_simp
            with_reducible rfl
          rotate_left
          · simp only [Act.put, List.setIfInBounds_toArray, List.set_cons_zero, List.set_cons_succ, i64_w, i32_w]
            rfl
          refine pure_ (i := 7) (N := some 23) (v := ?_) (a' := ?_) #[true, true, true, true, true, true, true, true, false, false, false, false, false, false, false, false, false, false, false, false, false] rfl rfl (by kernel_rfl) (fun _ _ _ h => h) (Or.inl ⟨by rfl, ?_⟩) ?_ ?_
          rotate_left
          · intro w'
            go_simp
            with_reducible rfl
          rotate_left
          · simp only [Act.put, List.setIfInBounds_toArray, List.set_cons_zero, List.set_cons_succ, i64_w, i32_w]
            rfl
          refine pure_ (i := 8) (N := some 24) (v := ?_) (a' := ?_) #[true, true, true, true, true, true, true, true, true, false, false, false, false, false, false, false, false, false, false, false, false] rfl rfl (by kernel_rfl) (fun _ _ _ h => h) (Or.inl ⟨by rfl, ?_⟩) ?_ ?_
          rotate_left
          · intro w'
            go_simp
            with_reducible rfl
          rotate_left
          · simp only [Act.put, List.setIfInBounds_toArray, List.set_cons_zero, List.set_cons_succ, i64_w, i32_w]
            rfl
          refine pure_ (i := 9) (N := some 25) (v := ?_) (a' := ?_) #[true, true, true, true, true, true, true, true, true, true, false, false, false, false, false, false, false, false, false, false, false] rfl rfl (by kernel_rfl) (fun _ _ _ h => h) (Or.inl ⟨by rfl, ?_⟩) ?_ ?_
          rotate_left
          · intro w'
            go_simp
            with_reducible rfl
          rotate_left
          · simp only [Act.put, List.setIfInBounds_toArray, List.set_cons_zero, List.set_cons_succ, i64_w, i32_w]
            rfl
          refine take_ (i := 10) (N := some 26) (v := ?_) (a' := ?_) #[true, true, true, true, true, true, true, true, true, true, true, false, false, false, false, false, false, false, false, false, false] rfl rfl (by kernel_rfl) (fun _ _ _ h => h) (Or.inl ⟨by rfl, ?_⟩) hHeld ?_ ?_
          rotate_left
          · rintro w' hb'
            have dd := pw_cell_below hb' hc2'.out
            go_simp
            with_reducible rfl
          rotate_left
          · simp only [Act.put, List.setIfInBounds_toArray, List.set_cons_zero, List.set_cons_succ, i64_w, i32_w]
            rfl
          refine pure_ (i := 11) (N := some 27) (v := ?_) (a' := ?_) #[true, true, true, true, true, true, true, true, true, true, true, true, false, false, false, false, false, false, false, false, false] rfl rfl (by kernel_rfl) (fun _ _ _ h => h) (Or.inl ⟨by rfl, ?_⟩) ?_ ?_
          rotate_left
          · intro w'
            go_simp
            with_reducible rfl
          rotate_left
          · simp only [Act.put, List.setIfInBounds_toArray, List.set_cons_zero, List.set_cons_succ, i64_w, i32_w]
            rfl
          refine pure_ (i := 12) (N := some 28) (v := ?_) (a' := ?_) #[true, true, true, true, true, true, true, true, true, true, true, true, true, false, false, false, false, false, false, false, false] rfl rfl (by kernel_rfl) (fun _ _ _ h => h) (Or.inl ⟨by rfl, ?_⟩) ?_ ?_
          rotate_left
          · intro w'
            go_simp
            with_reducible rfl
          rotate_left
          · simp only [Act.put, List.setIfInBounds_toArray, List.set_cons_zero, List.set_cons_succ, i64_w, i32_w]
            rfl
          refine pure_ (i := 13) (N := some 29) (v := ?_) (a' := ?_) #[true, true, true, true, true, true, true, true, true, true, true, true, true, true, false, false, false, false, false, false, false] rfl rfl (by kernel_rfl) (fun _ _ _ h => h) (Or.inl ⟨by rfl, ?_⟩) ?_ ?_
          rotate_left
          · intro w'
            go_simp
            with_reducible rfl
          rotate_left
          · simp only [Act.put, List.setIfInBounds_toArray, List.set_cons_zero, List.set_cons_succ, i64_w, i32_w]
            rfl
          refine pure_ (i := 14) (N := some 30) (v := ?_) (a' := ?_) #[true, true, true, true, true, true, true, true, true, true, true, true, true, true, true, false, false, false, false, false, false] rfl rfl (by kernel_rfl) (fun _ _ _ h => h) (Or.inl ⟨by rfl, ?_⟩) ?_ ?_
          rotate_left
          · intro w'
            go_simp
            with_reducible rfl
          rotate_left
          · simp only [Act.put, List.setIfInBounds_toArray, List.set_cons_zero, List.set_cons_succ, i64_w, i32_w]
            rfl
          refine take_ (i := 15) (N := some 31) (v := ?_) (a' := ?_) #[true, true, true, true, true, true, true, true, true, true, true, true, true, true, true, true, false, false, false, false, false] rfl rfl (by kernel_rfl) (fun _ _ _ h => h) (Or.inl ⟨by rfl, ?_⟩) hHeld ?_ ?_
          rotate_left
          · rintro w' hb'
            have dd := pw_cell_below hb' hc2'.out
            go_simp
            with_reducible rfl
          rotate_left
          · simp only [Act.put, List.setIfInBounds_toArray, List.set_cons_zero, List.set_cons_succ, i64_w, i32_w]
            rfl
          refine pure_ (i := 16) (N := some 32) (v := ?_) (a' := ?_) #[true, true, true, true, true, true, true, true, true, true, true, true, true, true, true, true, true, false, false, false, false] rfl rfl (by kernel_rfl) (fun _ _ _ h => h) (Or.inl ⟨by rfl, ?_⟩) ?_ ?_
          rotate_left
          · intro w'
            go_simp
            with_reducible rfl
          rotate_left
          · simp only [Act.put, List.setIfInBounds_toArray, List.set_cons_zero, List.set_cons_succ, i64_w, i32_w]
            rfl
          refine pure_ (i := 17) (N := some 33) (v := ?_) (a' := ?_) #[true, true, true, true, true, true, true, true, true, true, true, true, true, true, true, true, true, true, false, false, false] rfl rfl (by kernel_rfl) (fun _ _ _ h => h) (Or.inl ⟨by rfl, ?_⟩) ?_ ?_
          rotate_left
          · intro w'
            go_simp
            with_reducible rfl
          rotate_left
          · simp only [Act.put, List.setIfInBounds_toArray, List.set_cons_zero, List.set_cons_succ, i64_w, i32_w]
            rfl
          refine pure_ (i := 18) (N := some 34) (v := ?_) (a' := ?_) #[true, true, true, true, true, true, true, true, true, true, true, true, true, true, true, true, true, true, true, false, false] rfl rfl (by kernel_rfl) (fun _ _ _ h => h) (Or.inl ⟨by rfl, ?_⟩) ?_ ?_
          rotate_left
          · intro w'
            go_simp
            with_reducible rfl
          rotate_left
          · simp only [Act.put, List.setIfInBounds_toArray, List.set_cons_zero, List.set_cons_succ, i64_w, i32_w]
            rfl
          refine one_ (i := 19) (N := some 35) #[true, true, true, true, true, true, true, true, true, true, true, true, true, true, true, true, true, true, true, true, false] rfl rfl (by kernel_rfl) (by decide) (fun K hK => ?_)
          refine goes_ Try.func22 (by kernel_rfl) rfl #[.agg #[.bool x.leaf, .slice A1 x.keys.length c1, .slice A2 x.vals.length c2, .slice A3 x.kids.length c3], .int .u64 key, .string (s.extract 0 40)] (by rfl) rfl rfl (by (try simp only [List.map_toArray, List.map_cons, List.map_nil]); first | done | rfl) ?_
          rw [hcut.out]
          refine (hP2.out _ (hAt.out.below (below_drew (Below.refl _ _)))).mono ?_
          rintro r w5 ⟨v5, rfl, ⟨B1, b1, B2, b2, B3, b3, rfl, q1, q2, q3⟩, q4⟩
          have q5 := hid (At.mk_ (x := putF x key (cut40 s)) q1.1 q1.2 q2.1 q2.2 q3.1 q3.2)
          clear q1 q2 q3
          have s5 := below_then (below_drew (Below.refl _ _)) (Nat.le_refl _) q4
          have t5 := hid (below_then hB.out hB.out.size s5)
          have hx5 := hid ((s5.block _ (blk_lt hx.out)).trans hx.out)
          have hr5 := hid ((s5.block _ (blk_lt hr.out)).trans hr.out)
          skip
          refine ⟨_, rfl, ?_⟩
          refine hK.out _ _ s5 (fun hHeld => ?_)
          clear hK K
          refine norm_ (a' := ?_) ?_ ?_
          rotate_left
          · show Act.put _ (some 35) _ = _
            simp only [Act.put, List.setIfInBounds_toArray, List.set_cons_zero, List.set_cons_succ, i64_w, i32_w]
            rfl
          have y0 : w5.cell? ⟨w.heap.size + 1, 0, none⟩ = some (.bool x.leaf) := (blk_cell hx5.out 0).trans rfl
          have z0 := blk_frozen hx5.out 0
          have y1 : w5.cell? ⟨w.heap.size + 1, 1, none⟩ = some (.slice A1 x.keys.length c1) := (blk_cell hx5.out 1).trans rfl
          have z1 := blk_frozen hx5.out 1
          have y2 : w5.cell? ⟨w.heap.size + 1, 2, none⟩ = some (.slice A2 x.vals.length c2) := (blk_cell hx5.out 2).trans rfl
          have z2 := blk_frozen hx5.out 2
          have y3 : w5.cell? ⟨w.heap.size + 1, 3, none⟩ = some (.slice A3 x.kids.length c3) := (blk_cell hx5.out 3).trans rfl
          have z3 := blk_frozen hx5.out 3
          refine last_ (i := 20) (N := none) #[true, true, true, true, true, true, true, true, true, true, true, true, true, true, true, true, true, true, true, true, true] rfl rfl (by kernel_rfl) (by decide) (fun K hK => ?_)
          refine skip_ (w1 := ?_) (by rfl) rfl ?_ ?_
          rotate_left
          · go_simp
            with_reducible rfl
          refine hK.out _ _ ?_
          clear hK K
          refine done_ (by kernel_rfl) ?_
          have hx6 := hid (set4_at hx5.out (.bool (putF x key (cut40 s)).leaf) (.slice B1 (putF x key (cut40 s)).keys.length b1) (.slice B2 (putF x key (cut40 s)).vals.length b2) (.slice B3 (putF x key (cut40 s)).kids.length b3))
          have hb6 := hid (set4_below t5.out (Nat.le_succ _) (.bool (putF x key (cut40 s)).leaf) (.slice B1 (putF x key (cut40 s)).keys.length b1) (.slice B2 (putF x key (cut40 s)).vals.length b2) (.slice B3 (putF x key (cut40 s)).kids.length b3))
          have hA6 := hid (q5.out.set4 hx5.out (.bool (putF x key (cut40 s)).leaf) (.slice B1 (putF x key (cut40 s)).keys.length b1) (.slice B2 (putF x key (cut40 s)).vals.length b2) (.slice B3 (putF x key (cut40 s)).kids.length b3))
          have hr6 := hid ((set4_far (show w.heap.size ≠ w.heap.size + 1 by omega) (.bool (putF x key (cut40 s)).leaf) (.slice B1 (putF x key (cut40 s)).keys.length b1) (.slice B2 (putF x key (cut40 s)).vals.length b2) (.slice B3 (putF x key (cut40 s)).kids.length b3)).trans hr5.out)
          go_wp2_with fail
          go_roundg g
          case measure => omega
          case rel => exact ⟨k + 1, putF x key (cut40 s), B1, B2, B3, b1, b2, b3, by first | rfl | go_num, by omega, hb6, hr6, hx6, hA6, hF3, hlen3.out.1, hlen3.out.2⟩
        · have hcut : cut40 s = s := by rw [cut40, Nat.min_eq_left (by omega), ByteArray.extract_zero_size]
          have hP2 := hid (fun W H => by have h := hP.out W H; rw [hcut] at h; exact h)
          have hF3 := hid (by have h : List.foldl growStep (putF x key (cut40 s)) ((ps.drop (k + 1)).take g) = growF ps := hF2.out; rw [hcut] at h; exact h)
          have hlen3 := hid (by have h : (putF x key (cut40 s)).keys.length ≤ k + 1 ∧ (putF x key (cut40 s)).vals.length ≤ k + 1 := hlen.out; rw [hcut] at h; exact h)
          replace hcut := hid hcut
          have d0 : wr.cell? ⟨w.heap.size + 1, 0, none⟩ = some (.bool x.leaf) := (blk_cell hx.out 0).trans rfl
          have d1 : wr.cell? ⟨w.heap.size + 1, 1, none⟩ = some (.slice A1 x.keys.length c1) := (blk_cell hx.out 1).trans rfl
          have d2 : wr.cell? ⟨w.heap.size + 1, 2, none⟩ = some (.slice A2 x.vals.length c2) := (blk_cell hx.out 2).trans rfl
          have d3 : wr.cell? ⟨w.heap.size + 1, 3, none⟩ = some (.slice A3 x.kids.length c3) := (blk_cell hx.out 3).trans rfl
          go_upto_region 5 with fail
          refine start_ (n := 21) (S := fun w' => Below wr.heap.size wr w') (ds := [20]) #[false, false, false, false, false, false, false, false, false, false, false, false, false, false, false, false, false, false, false, false, false] (by kernel_rfl) rfl rfl (below_drew (Below.refl _ _)) (fun hHeld => ?_)
          refine take_ (i := 0) (N := some 16) (v := ?_) (a' := ?_) #[true, false, false, false, false, false, false, false, false, false, false, false, false, false, false, false, false, false, false, false, false] rfl rfl (by kernel_rfl) (fun _ _ _ h => h) (Or.inl ⟨by rfl, ?_⟩) hHeld ?_ ?_
          rotate_left
          · rintro w' hb'
            have dd0 := pw_cell_below hb' d0
            have dd1 := pw_cell_below hb' d1
            have dd2 := pw_cell_below hb' d2
            have dd3 := pw_cell_below hb' d3
            go_simp
            with_reducible rfl
          rotate_left
          · simp only [Act.put, List.setIfInBounds_toArray, List.set_cons_zero, List.set_cons_succ, i64_w, i32_w]
            rfl
          refine pure_ (i := 1) (N := some 17) (v := ?_) (a' := ?_) #[true, true, false, false, false, false, false, false, false, false, false, false, false, false, false, false, false, false, false, false, false] rfl rfl (by kernel_rfl) (fun _ _ _ h => h) (Or.inl ⟨by rfl, ?_⟩) ?_ ?_
          rotate_left
          · intro w'
            go_simp
            with_reducible rfl
          rotate_left
          · simp only [Act.put, List.setIfInBounds_toArray, List.set_cons_zero, List.set_cons_succ, i64_w, i32_w]
            rfl
          refine pure_ (i := 2) (N := some 18) (v := ?_) (a' := ?_) #[true, true, true, false, false, false, false, false, false, false, false, false, false, false, false, false, false, false, false, false, false] rfl rfl (by kernel_rfl) (fun _ _ _ h => h) (Or.inl ⟨by rfl, ?_⟩) ?_ ?_
          rotate_left
          · intro w'
            go_simp
            with_reducible rfl
          rotate_left
          · simp only [Act.put, List.setIfInBounds_toArray, List.set_cons_zero, List.set_cons_succ, i64_w, i32_w]
            rfl
          refine pure_ (i := 3) (N := some 19) (v := ?_) (a' := ?_) #[true, true, true, true, false, false, false, false, false, false, false, false, false, false, false, false, false, false, false, false, false] rfl rfl (by kernel_rfl) (fun _ _ _ h => h) (Or.inl ⟨by rfl, ?_⟩) ?_ ?_
          rotate_left
          · intro w'
            go_simp
            with_reducible rfl
          rotate_left
          · simp only [Act.put, List.setIfInBounds_toArray, List.set_cons_zero, List.set_cons_succ, i64_w, i32_w]
            rfl
          refine pure_ (i := 4) (N := some 20) (v := ?_) (a' := ?_) #[true, true, true, true, true, false, false, false, false, false, false, false, false, false, false, false, false, false, false, false, false] rfl rfl (by kernel_rfl) (fun _ _ _ h => h) (Or.inl ⟨by rfl, ?_⟩) ?_ ?_
          rotate_left
          · intro w'
            go_simp
            with_reducible rfl
          rotate_left
          · simp only [Act.put, List.setIfInBounds_toArray, List.set_cons_zero, List.set_cons_succ, i64_w, i32_w]
            rfl
          refine take_ (i := 5) (N := some 21) (v := ?_) (a' := ?_) #[true, true, true, true, true, true, false, false, false, false, false, false, false, false, false, false, false, false, false, false, false] rfl rfl (by kernel_rfl) (fun _ _ _ h => h) (Or.inl ⟨by rfl, ?_⟩) hHeld ?_ ?_
          rotate_left
          · rintro w' hb'
            have dd := pw_cell_below hb' hc1'.out
            go_simp
            with_reducible rfl
          rotate_left
          · simp only [Act.put, List.setIfInBounds_toArray, List.set_cons_zero, List.set_cons_succ, i64_w, i32_w]
            rfl
          refine pure_ (i := 6) (N := some 22) (v := ?_) (a' := ?_) #[true, true, true, true, true, true, true, false, false, false, false, false, false, false, false, false, false, false, false, false, false] rfl rfl (by kernel_rfl) (fun _ _ _ h => h) (Or.inl ⟨by rfl, ?_⟩) ?_ ?_
          rotate_left
          · intro w'
            go_simp
            with_reducible rfl
          rotate_left
          · simp only [Act.put, List.setIfInBounds_toArray, List.set_cons_zero, List.set_cons_succ, i64_w, i32_w]
            rfl
          refine pure_ (i := 7) (N := some 23) (v := ?_) (a' := ?_) #[true, true, true, true, true, true, true, true, false, false, false, false, false, false, false, false, false, false, false, false, false] rfl rfl (by kernel_rfl) (fun _ _ _ h => h) (Or.inl ⟨by rfl, ?_⟩) ?_ ?_
          rotate_left
          · intro w'
            go_simp
            with_reducible rfl
          rotate_left
          · simp only [Act.put, List.setIfInBounds_toArray, List.set_cons_zero, List.set_cons_succ, i64_w, i32_w]
            rfl
          refine pure_ (i := 8) (N := some 24) (v := ?_) (a' := ?_) #[true, true, true, true, true, true, true, true, true, false, false, false, false, false, false, false, false, false, false, false, false] rfl rfl (by kernel_rfl) (fun _ _ _ h => h) (Or.inl ⟨by rfl, ?_⟩) ?_ ?_
          rotate_left
          · intro w'
            go_simp
            with_reducible rfl
          rotate_left
          · simp only [Act.put, List.setIfInBounds_toArray, List.set_cons_zero, List.set_cons_succ, i64_w, i32_w]
            rfl
          refine pure_ (i := 9) (N := some 25) (v := ?_) (a' := ?_) #[true, true, true, true, true, true, true, true, true, true, false, false, false, false, false, false, false, false, false, false, false] rfl rfl (by kernel_rfl) (fun _ _ _ h => h) (Or.inl ⟨by rfl, ?_⟩) ?_ ?_
          rotate_left
          · intro w'
            go_simp
            with_reducible rfl
          rotate_left
          · simp only [Act.put, List.setIfInBounds_toArray, List.set_cons_zero, List.set_cons_succ, i64_w, i32_w]
            rfl
          refine take_ (i := 10) (N := some 26) (v := ?_) (a' := ?_) #[true, true, true, true, true, true, true, true, true, true, true, false, false, false, false, false, false, false, false, false, false] rfl rfl (by kernel_rfl) (fun _ _ _ h => h) (Or.inl ⟨by rfl, ?_⟩) hHeld ?_ ?_
          rotate_left
          · rintro w' hb'
            have dd := pw_cell_below hb' hc2'.out
            go_simp
            with_reducible rfl
          rotate_left
          · simp only [Act.put, List.setIfInBounds_toArray, List.set_cons_zero, List.set_cons_succ, i64_w, i32_w]
            rfl
          refine pure_ (i := 11) (N := some 27) (v := ?_) (a' := ?_) #[true, true, true, true, true, true, true, true, true, true, true, true, false, false, false, false, false, false, false, false, false] rfl rfl (by kernel_rfl) (fun _ _ _ h => h) (Or.inl ⟨by rfl, ?_⟩) ?_ ?_
          rotate_left
          · intro w'
            go_simp
            with_reducible rfl
          rotate_left
          · simp only [Act.put, List.setIfInBounds_toArray, List.set_cons_zero, List.set_cons_succ, i64_w, i32_w]
            rfl
          refine pure_ (i := 12) (N := some 28) (v := ?_) (a' := ?_) #[true, true, true, true, true, true, true, true, true, true, true, true, true, false, false, false, false, false, false, false, false] rfl rfl (by kernel_rfl) (fun _ _ _ h => h) (Or.inl ⟨by rfl, ?_⟩) ?_ ?_
          rotate_left
          · intro w'
            go_simp
            with_reducible rfl
          rotate_left
          · simp only [Act.put, List.setIfInBounds_toArray, List.set_cons_zero, List.set_cons_succ, i64_w, i32_w]
            rfl
          refine pure_ (i := 13) (N := some 29) (v := ?_) (a' := ?_) #[true, true, true, true, true, true, true, true, true, true, true, true, true, true, false, false, false, false, false, false, false] rfl rfl (by kernel_rfl) (fun _ _ _ h => h) (Or.inl ⟨by rfl, ?_⟩) ?_ ?_
          rotate_left
          · intro w'
            go_simp
            with_reducible rfl
          rotate_left
          · simp only [Act.put, List.setIfInBounds_toArray, List.set_cons_zero, List.set_cons_succ, i64_w, i32_w]
            rfl
          refine pure_ (i := 14) (N := some 30) (v := ?_) (a' := ?_) #[true, true, true, true, true, true, true, true, true, true, true, true, true, true, true, false, false, false, false, false, false] rfl rfl (by kernel_rfl) (fun _ _ _ h => h) (Or.inl ⟨by rfl, ?_⟩) ?_ ?_
          rotate_left
          · intro w'
            go_simp
            with_reducible rfl
          rotate_left
          · simp only [Act.put, List.setIfInBounds_toArray, List.set_cons_zero, List.set_cons_succ, i64_w, i32_w]
            rfl
          refine take_ (i := 15) (N := some 31) (v := ?_) (a' := ?_) #[true, true, true, true, true, true, true, true, true, true, true, true, true, true, true, true, false, false, false, false, false] rfl rfl (by kernel_rfl) (fun _ _ _ h => h) (Or.inl ⟨by rfl, ?_⟩) hHeld ?_ ?_
          rotate_left
          · rintro w' hb'
            have dd := pw_cell_below hb' hc2'.out
            go_simp
            with_reducible rfl
          rotate_left
          · simp only [Act.put, List.setIfInBounds_toArray, List.set_cons_zero, List.set_cons_succ, i64_w, i32_w]
            rfl
          refine pure_ (i := 16) (N := some 32) (v := ?_) (a' := ?_) #[true, true, true, true, true, true, true, true, true, true, true, true, true, true, true, true, true, false, false, false, false] rfl rfl (by kernel_rfl) (fun _ _ _ h => h) (Or.inl ⟨by rfl, ?_⟩) ?_ ?_
          rotate_left
          · intro w'
            go_simp
            with_reducible rfl
          rotate_left
          · simp only [Act.put, List.setIfInBounds_toArray, List.set_cons_zero, List.set_cons_succ, i64_w, i32_w]
            rfl
          refine pure_ (i := 17) (N := some 33) (v := ?_) (a' := ?_) #[true, true, true, true, true, true, true, true, true, true, true, true, true, true, true, true, true, true, false, false, false] rfl rfl (by kernel_rfl) (fun _ _ _ h => h) (Or.inl ⟨by rfl, ?_⟩) ?_ ?_
          rotate_left
          · intro w'
            go_simp
            with_reducible rfl
          rotate_left
          · simp only [Act.put, List.setIfInBounds_toArray, List.set_cons_zero, List.set_cons_succ, i64_w, i32_w]
            rfl
          refine pure_ (i := 18) (N := some 34) (v := ?_) (a' := ?_) #[true, true, true, true, true, true, true, true, true, true, true, true, true, true, true, true, true, true, true, false, false] rfl rfl (by kernel_rfl) (fun _ _ _ h => h) (Or.inl ⟨by rfl, ?_⟩) ?_ ?_
          rotate_left
          · intro w'
            go_simp
            with_reducible rfl
          rotate_left
          · simp only [Act.put, List.setIfInBounds_toArray, List.set_cons_zero, List.set_cons_succ, i64_w, i32_w]
            rfl
          refine one_ (i := 19) (N := some 35) #[true, true, true, true, true, true, true, true, true, true, true, true, true, true, true, true, true, true, true, true, false] rfl rfl (by kernel_rfl) (by decide) (fun K hK => ?_)
          refine goes_ Try.func22 (by kernel_rfl) rfl #[.agg #[.bool x.leaf, .slice A1 x.keys.length c1, .slice A2 x.vals.length c2, .slice A3 x.kids.length c3], .int .u64 key, .string (s)] (by rfl) rfl rfl (by (try simp only [List.map_toArray, List.map_cons, List.map_nil]); first | done | rfl) ?_
          skip
          refine (hP2.out _ (hAt.out.below (below_drew (Below.refl _ _)))).mono ?_
          rintro r w5 ⟨v5, rfl, ⟨B1, b1, B2, b2, B3, b3, rfl, q1, q2, q3⟩, q4⟩
          have q5 := hid (At.mk_ (x := putF x key s) q1.1 q1.2 q2.1 q2.2 q3.1 q3.2)
          clear q1 q2 q3
          have s5 := below_then (below_drew (Below.refl _ _)) (Nat.le_refl _) q4
          have t5 := hid (below_then hB.out hB.out.size s5)
          have hx5 := hid ((s5.block _ (blk_lt hx.out)).trans hx.out)
          have hr5 := hid ((s5.block _ (blk_lt hr.out)).trans hr.out)
          skip
          refine ⟨_, rfl, ?_⟩
          refine hK.out _ _ s5 (fun hHeld => ?_)
          clear hK K
          refine norm_ (a' := ?_) ?_ ?_
          rotate_left
          · show Act.put _ (some 35) _ = _
            simp only [Act.put, List.setIfInBounds_toArray, List.set_cons_zero, List.set_cons_succ, i64_w, i32_w]
            rfl
          have y0 : w5.cell? ⟨w.heap.size + 1, 0, none⟩ = some (.bool x.leaf) := (blk_cell hx5.out 0).trans rfl
          have z0 := blk_frozen hx5.out 0
          have y1 : w5.cell? ⟨w.heap.size + 1, 1, none⟩ = some (.slice A1 x.keys.length c1) := (blk_cell hx5.out 1).trans rfl
          have z1 := blk_frozen hx5.out 1
          have y2 : w5.cell? ⟨w.heap.size + 1, 2, none⟩ = some (.slice A2 x.vals.length c2) := (blk_cell hx5.out 2).trans rfl
          have z2 := blk_frozen hx5.out 2
          have y3 : w5.cell? ⟨w.heap.size + 1, 3, none⟩ = some (.slice A3 x.kids.length c3) := (blk_cell hx5.out 3).trans rfl
          have z3 := blk_frozen hx5.out 3
          refine last_ (i := 20) (N := none) #[true, true, true, true, true, true, true, true, true, true, true, true, true, true, true, true, true, true, true, true, true] rfl rfl (by kernel_rfl) (by decide) (fun K hK => ?_)
          refine skip_ (w1 := ?_) (by rfl) rfl ?_ ?_
          rotate_left
          · go_simp
            with_reducible rfl
          refine hK.out _ _ ?_
          clear hK K
          refine done_ (by kernel_rfl) ?_
          have hx6 := hid (set4_at hx5.out (.bool (putF x key s).leaf) (.slice B1 (putF x key s).keys.length b1) (.slice B2 (putF x key s).vals.length b2) (.slice B3 (putF x key s).kids.length b3))
          have hb6 := hid (set4_below t5.out (Nat.le_succ _) (.bool (putF x key s).leaf) (.slice B1 (putF x key s).keys.length b1) (.slice B2 (putF x key s).vals.length b2) (.slice B3 (putF x key s).kids.length b3))
          have hA6 := hid (q5.out.set4 hx5.out (.bool (putF x key s).leaf) (.slice B1 (putF x key s).keys.length b1) (.slice B2 (putF x key s).vals.length b2) (.slice B3 (putF x key s).kids.length b3))
          have hr6 := hid ((set4_far (show w.heap.size ≠ w.heap.size + 1 by omega) (.bool (putF x key s).leaf) (.slice B1 (putF x key s).keys.length b1) (.slice B2 (putF x key s).vals.length b2) (.slice B3 (putF x key s).kids.length b3)).trans hr5.out)
          go_wp2_with fail
          go_roundg g
          case measure => omega
          case rel => exact ⟨k + 1, putF x key s, B1, B2, B3, b1, b2, b3, by first | rfl | go_num, by omega, hb6, hr6, hx6, hA6, hF3, hlen3.out.1, hlen3.out.2⟩
    · have hk0 : k = m := by omega
      obtain rfl : gk = 0 := by omega
      have hE := hF.out
      rw [List.take_zero, List.foldl_nil] at hE
      have a1 : ¬ ((k : Int) < (n : Int)) ∨ ((k : Int) < (n : Int) ∧ ¬ ((k : Int) < 20)) := by omega
      have hZ := hid (set4_at hr.out (.bool x.leaf) (.slice A1 x.keys.length c1) (.slice A2 x.vals.length c2) (.slice A3 x.kids.length c3))
      have hb := hid (set4_below hB.out (Nat.le_refl _) (.bool x.leaf) (.slice A1 x.keys.length c1) (.slice A2 x.vals.length c2) (.slice A3 x.kids.length c3))
      have hAt2 := hid (hAt.out.set4 hr.out (.bool x.leaf) (.slice A1 x.keys.length c1) (.slice A2 x.vals.length c2) (.slice A3 x.kids.length c3))
      replace hE := hid hE
      clear hF hk0 hk hlt hm
      rcases a1 with a1 | ⟨a1, a2⟩ <;>
      · skip
        have d0 : wr.cell? ⟨w.heap.size + 1, 0, none⟩ = some (.bool x.leaf) := (blk_cell hx.out 0).trans rfl
        have d1 : wr.cell? ⟨w.heap.size + 1, 1, none⟩ = some (.slice A1 x.keys.length c1) := (blk_cell hx.out 1).trans rfl
        have d2 : wr.cell? ⟨w.heap.size + 1, 2, none⟩ = some (.slice A2 x.vals.length c2) := (blk_cell hx.out 2).trans rfl
        have d3 : wr.cell? ⟨w.heap.size + 1, 3, none⟩ = some (.slice A3 x.kids.length c3) := (blk_cell hx.out 3).trans rfl
        have e0 : wr.cell? ⟨w.heap.size, 0, none⟩ = some (.bool false) := (blk_cell hr.out 0).trans rfl
        have f0 := blk_frozen hr.out 0
        have e1 : wr.cell? ⟨w.heap.size, 1, none⟩ = some (.slice none 0 0) := (blk_cell hr.out 1).trans rfl
        have f1 := blk_frozen hr.out 1
        have e2 : wr.cell? ⟨w.heap.size, 2, none⟩ = some (.slice none 0 0) := (blk_cell hr.out 2).trans rfl
        have f2 := blk_frozen hr.out 2
        have e3 : wr.cell? ⟨w.heap.size, 3, none⟩ = some (.slice none 0 0) := (blk_cell hr.out 3).trans rfl
        have f3 := blk_frozen hr.out 3
        go_wp2_with fail
        refine bodyPost_ret (results_cell_row rfl _ _ w.heap.size 29 #[.bool x.leaf, .slice A1 x.keys.length c1, .slice A2 x.vals.length c2, .slice A3 x.kids.length c3] (0, 0) _ rfl hZ.out Try.underlying29 rfl (by kernel_rfl)) rfl ?_
        exact ⟨_, rfl, by rw [← hE.out]; exact hAt2.out, hb.out⟩
end Go.Proofs.Ytnghbfegijnolaa.A
