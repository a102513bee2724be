/-
  A node in memory; place; Find.
  ref.
  Without, Unhang.
-/
import Derived.Test.YtnghbfegijnolaaA1
namespace Go.Proofs.Ytnghbfegijnolaa.A
set_option linter.unusedVariables false
set_option linter.unusedSimpArgs false
open Go.RowKit Go.Proofs.YtnghbfegijnolaaW.PrintWords Go.Proofs.YtnghbfegijnolaaW.PrintLast Go.Proofs.YtnghbfegijnolaaW.PrintMore
open Go.Lib (hid)
/-- A node, plainly. -/
structure Nd where
  leaf : Bool
  keys : List Int
  vals : List ByteArray
  kids : List Int
def At (w : World) (v : Value) (x : Nd) : Prop := ∃ A1 c1 A2 c2 A3 c3, v = .agg #[.bool x.leaf, .slice A1 x.keys.length c1, .slice A2 x.vals.length c2, .slice A3 x.kids.length c3] ∧
  ((Kd.int .u64).C w A1 x.keys.length x.keys ∧ x.keys.length ≤ c1) ∧ (Kd.string.C w A2 x.vals.length x.vals ∧ x.vals.length ≤ c2) ∧ ((Kd.int .i64).C w A3 x.kids.length x.kids ∧ x.kids.length ≤ c3)
theorem At.below {w w' : World} {v : Value} {x : Nd} (h : At w v x) (hb : Below w.heap.size w w') : At w' v x := by
  obtain ⟨A1, c1, A2, c2, A3, c3, e, ⟨h1, l1⟩, ⟨h2, l2⟩, ⟨h3, l3⟩⟩ := h
  exact ⟨A1, c1, A2, c2, A3, c3, e, ⟨Kd.C_below h1 hb, l1⟩, ⟨Kd.C_below h2 hb, l2⟩, ⟨Kd.C_below h3 hb, l3⟩⟩
theorem C_one {α : Type} {enc : α → Value} {h1 : ∀ x, (enc x).oneCell' = true} {w : World} {A : Option Addr} {n : Nat} {xs : List α} (h : (Kd.scalar enc h1).C w A n xs) (d : α) (i : Nat) (hi : i < xs.length) : ∃ ad, A = some ad ∧ w.cell? (ad.add i) = some (enc (xs.getD i d)) := by
  obtain ⟨ad, c, e, hl, hr, hc⟩ := ReadsRow.get_ h d i (by omega) (by have := h.1; omega)
  refine ⟨ad, e, ?_⟩
  have hr' : c = [enc (xs.getD (i : Int).toNat d)] := hr
  have := hc 0 (enc (xs.getD (i : Int).toNat d)) (by rw [hr']; rfl)
  simpa [Kd.scalar] using this
/-- Where a key stands, or would, by halves. -/
def placeF (keys : List Int) (key : Int) : Nat → Nat → Nat → Nat
  | 0, a, _ => a
  | k + 1, a, b => if a < b then (if keys.getD ((a + b) / 2) 0 = key then (a + b) / 2 else if keys.getD ((a + b) / 2) 0 < key then placeF keys key k ((a + b) / 2 + 1) b else placeF keys key k a ((a + b) / 2)) else a
theorem placeF_step (keys : List Int) (key : Int) (k a b : Nat) (h : a < b) : placeF keys key (k + 1) a b = if keys.getD ((a + b) / 2) 0 = key then (a + b) / 2 else if keys.getD ((a + b) / 2) 0 < key then placeF keys key k ((a + b) / 2 + 1) b else placeF keys key k a ((a + b) / 2) := by
  rw [placeF, if_pos h]
theorem placeF_le (keys : List Int) (key : Int) : ∀ k a b, a ≤ b → placeF keys key k a b ≤ b
  | 0, a, b, h => h
  | k + 1, a, b, h => by
    rw [placeF]
    split
    · split
      · omega
      · split
        · exact placeF_le keys key k _ b (by omega)
        · have := placeF_le keys key k a ((a + b) / 2) (by omega)
          omega
    · exact h
theorem placeF_end (keys : List Int) (key : Int) (k a b : Nat) (h : ¬ a < b) : placeF keys key k a b = a := by
  cases k with
  | zero => rfl
  | succ k => rw [placeF, if_neg h]
def place (keys : List Int) (key : Int) : Nat := placeF keys key keys.length 0 keys.length
def isAt (keys : List Int) (key : Int) : Bool := decide (place keys key < keys.length) && (keys.getD (place keys key) 0 == key)
set_option maxHeartbeats 1000000 in
set_option maxRecDepth 100000 in
theorem place_walk (keys : List Int) (key : Int) (A : Option Addr) (c : Nat) (w : World) (H : (Kd.int .u64).C w A keys.length keys) (hmx : keys.length ≤ 1099511627776) :
    Calls Try.prog 34 #[.slice A keys.length c, .int .u64 key] w fun e w' => e = .returned (.tuple #[.int .i64 (place keys key : Nat), .bool (isAt keys key)]) ∧ Below w.heap.size w w' := by
  have hmax := Kd.C_max H
  have hF := hid (placeF_le keys key keys.length 0 keys.length (Nat.zero_le _))
  have H0 := hid H
  obtain ⟨R, hR⟩ : ∃ R, R = place keys key := ⟨_, rfl⟩
  rw [isAt, ← hR]
  have hR0 : Hid (placeF keys key keys.length 0 keys.length = R) := hid hR.symm
  have hRle : R ≤ keys.length := by rw [hR]; exact hF.out
  replace hR := hid hR
  have hfin : (¬ R < keys.length) ∨ (R < keys.length ∧ keys.getD R 0 = key) ∨ (R < keys.length ∧ ¬ keys.getD R 0 = key) := by omega
  have HC := hid (fun i hi => C_one H 0 i hi)
  clear H hF
  generalize hn : keys.length = n at *
  replace hn := hid hn
  go_enter Try.func34, Try.ntmps34
  go_wp2_with fail
  go_step3
  go_wp2_with fail
  go_step3
  go_wp2_with fail
  go_loopg [6, 7] n (fun g lo hi wr => ∃ a b : Nat, lo = .int .i64 (a : Int) ∧ hi = .int .i64 (b : Int) ∧ a ≤ b ∧ b ≤ n ∧ b ≤ a + g ∧ Hid (placeF keys key g a b = R) ∧ Hid (wr = w))
  case atStart => exact ⟨0, n, rfl, rfl, by omega, by omega, by omega, hR0, hid rfl⟩
  case round =>
    obtain ⟨a, b, rfl, rfl, hab, hbn, hbg, hF, hwr⟩ := hrel
    rw [hwr.out]
    by_cases hlt : a < b
    · cases gk with
      | zero => omega
      | succ g =>
        have hmn : (a + b) / 2 < n := by omega
        obtain ⟨ad, hA, hc⟩ := HC.out ((a + b) / 2) (by omega)
        subst hA
        have hlt2 : (a : Int) < (b : Int) := by omega
        have hF2 := hF.out
        rw [placeF_step _ _ _ _ _ hlt] at hF2
        generalize hk : keys.getD ((a + b) / 2) 0 = x at hc hF2
        clear hF
        by_cases h1 : x = key
        · rw [if_pos h1] at hF2
          subst h1
          subst hF2
          have hk' := hid hk
          have hmn2 : ((a : Int) + b) / 2 < (n : Int) := by omega
          clear hk HC hbg hfin hR0
          go_wp2_with fail
          go_region
          go_wp2_with fail
          rw [Exit.noGoto_ret]
          go_ret2
          exact ⟨by rw [hk'.out]; simp [hmn], below_drew (Below.refl _ _)⟩
        · rw [if_neg h1] at hF2
          by_cases h2 : x < key
          · rw [if_pos h2] at hF2
            replace hF2 := hid hF2
            have hk' := hid hk
            clear hk hfin
            go_wp2_with fail
            go_roundg g
            case measure => omega
            case rel => exact ⟨(a + b) / 2 + 1, b, by first | rfl | go_num | (simp; done), rfl, by omega, hbn, by omega, hF2, hid rfl⟩
          · rw [if_neg h2] at hF2
            replace hF2 := hid hF2
            have hk' := hid hk
            clear hk hfin
            go_wp2_with fail
            go_roundg g
            case measure => omega
            case rel => exact ⟨a, (a + b) / 2, rfl, by first | rfl | go_num | (simp; done), by omega, by omega, by omega, hF2, hid rfl⟩
    · have hF2 := hF.out
      rw [placeF_end _ _ _ _ _ hlt] at hF2
      subst hF2
      have hlt3 : ¬ ((a : Int) < (b : Int)) := by omega
      rcases hfin with h | ⟨h, hk⟩ | ⟨h, hk⟩
      · have h2 : ¬ ((a : Int) < (n : Int)) := by omega
        clear hF HC hab hbn hbg hR0
        go_wp2_with fail
        go_region
        go_wp2_with fail
        rw [Exit.noGoto_ret]
        go_ret2
        exact ⟨by simp [h], below_drew (Below.refl _ _)⟩
      · obtain ⟨ad, hA, hc⟩ := HC.out a (by omega)
        subst hA
        rw [hk] at hc
        have hk' := hid hk
        have h2 : (a : Int) < (n : Int) := by omega
        clear hF HC hab hbn hbg hR0 hk
        go_wp2_with fail
        go_region
        go_wp2_with fail
        rw [Exit.noGoto_ret]
        go_ret2
        exact ⟨by rw [hk'.out]; simp [h], below_drew (Below.refl _ _)⟩
      · obtain ⟨ad, hA, hc⟩ := HC.out a (by omega)
        subst hA
        generalize hx : keys.getD a 0 = x at hc hk
        have hx' := hid hx
        have h2 : (a : Int) < (n : Int) := by omega
        clear hF HC hab hbn hbg hR0 hx
        go_wp2_with fail
        go_region
        go_wp2_with fail
        rw [Exit.noGoto_ret]
        go_ret2
        exact ⟨by rw [hx'.out]; simp [h, hk], below_drew (Below.refl _ _)⟩
/-- Find's answer. -/
def findF (x : Nd) (key : Int) : Int × Bool := if x.leaf = true then ((place x.keys key : Nat), isAt x.keys key) else (if isAt x.keys key = true then ((place x.keys key : Nat) : Int) + 1 else (place x.keys key : Nat), true)
set_option maxHeartbeats 1000000 in
set_option maxRecDepth 100000 in
theorem find_walk (x : Nd) (v : Value) (key : Int) (w : World) (H : At w v x) (hmx : x.keys.length ≤ 1099511627776) :
    Calls Try.prog 12 #[v, .int .u64 key] w fun e w' => e = .returned (.tuple #[.int .i64 (findF x key).1, .bool (findF x key).2]) ∧ Below w.heap.size w w' := by
  obtain ⟨A1, c1, A2, c2, A3, c3, rfl, ⟨h1, l1⟩, ⟨h2, l2⟩, ⟨h3, l3⟩⟩ := H
  have hB := hid (below_alloc (Below.refl w.heap.size w) (.cells #[.bool x.leaf, .slice A1 x.keys.length c1, .slice A2 x.vals.length c2, .slice A3 x.kids.length c3] 29))
  have hx : Hid ((w.alloc (.cells #[.bool x.leaf, .slice A1 x.keys.length c1, .slice A2 x.vals.length c2, .slice A3 x.kids.length c3] 29)).heap[w.heap.size]? = some (.cells #[.bool x.leaf, .slice A1 x.keys.length c1, .slice A2 x.vals.length c2, .slice A3 x.kids.length c3] 29 (0, 0))) := hid Array.getElem?_push_size
  have hP := hid (fun W hb => place_walk x.keys key A1 c1 W (Kd.C_below h1 hb) hmx)
  have hpl : ((place x.keys key : Nat) : Int) ≤ 1099511627776 := by have := placeF_le x.keys key x.keys.length 0 x.keys.length (Nat.zero_le _); unfold place; omega
  clear h1 h2 h3
  obtain ⟨leaf, keys, vals, kids⟩ := x
  simp only at hB hx hP hpl ⊢
  rw [findF]
  simp only
  generalize place keys key = p at hP hpl ⊢
  generalize isAt keys key = q at hP ⊢
  cases leaf <;> cases q <;>
  · go_enter Try.func12, Try.ntmps12
    go_upto_region 1 with fail
    generalize w.alloc (.cells #[.bool _, .slice A1 keys.length c1, .slice A2 vals.length c2, .slice A3 kids.length c3] 29) = w1 at *
    have d0 := (blk_cell hx.out 0).trans rfl
    have d1 := (blk_cell hx.out 1).trans rfl
    go_upto_region 2 with (first | ((with_reducible refine Calls.mono (hP.out _ hB.out) ?_); rintro r w2 ⟨rfl, hb2⟩; replace hx := hid ((hb2.block _ (blk_lt hx.out)).trans hx.out); replace hb2 := hid (below_then hB.out hB.out.size hb2)))
    clear d0 d1
    have d0 := (blk_cell hx.out 0).trans rfl
    go_wp2_with fail
    go_ret2
    exact ⟨rfl, hb2.out⟩
theorem below_set {w W : World} (h : Below w.heap.size w W) {g : Nat} (hg : w.heap.size ≤ g) (i : Nat) (u : Value) : Below w.heap.size w (W.setCell ⟨g, i, none⟩ u) :=
  ⟨h.os, h.tape, h.output, by simpa using h.size, fun k hk => (Below.heap_setCell W ⟨g, i, none⟩ u k (by show k ≠ g; omega)).trans (h.block k hk)⟩
theorem C_row1 {α : Type} {enc : α → Value} {h1 : ∀ x, (enc x).oneCell' = true} {w : World} {g e : Nat} {x : α} (h : w.heap[g]? = some (.cells #[enc x] e (0, 0))) : (Kd.scalar enc h1).C w (some ⟨g, 0, none⟩) [x].length [x] := by
  refine ⟨rfl, by simp, fun _ => ⟨_, rfl, fun j p hj => ?_⟩⟩
  have hj0 : j = 0 := by
    have := (List.getElem?_eq_some_iff.1 hj).1
    simpa using this
  subst hj0
  have hp : x = p := by simpa using hj
  subst hp
  refine ⟨[enc x], rfl, rfl, fun i u hu => ?_⟩
  have hi0 : i = 0 := by
    have := (List.getElem?_eq_some_iff.1 hu).1
    simpa using this
  subst hi0
  have hu' : enc x = u := by simpa using hu
  subst hu'
  rw [add_plain]
  exact (blk_cell h 0).trans rfl
theorem alloc2_fst (w : World) (o1 o2 : Obj) : ((w.alloc o1).alloc o2).heap[w.heap.size]? = some o1 :=
  ((below_alloc (Below.refl _ (w.alloc o1)) o2).block w.heap.size (by show w.heap.size < (w.heap.push o1).size; rw [Array.size_push]; omega)).trans Array.getElem?_push_size
theorem alloc2_snd (w : World) (o1 o2 : Obj) : ((w.alloc o1).alloc o2).heap[w.heap.size + 1]? = some o2 := by
  have h := @Array.getElem?_push_size _ (w.alloc o1).heap o2
  rw [show (w.alloc o1).heap.size = w.heap.size + 1 from Array.size_push ..] at h
  exact h
theorem At.mk_ {w : World} {x : Nd} {A1 A2 A3 : Option Addr} {c1 c2 c3 : Nat} (h1 : (Kd.int .u64).C w A1 x.keys.length x.keys) (l1 : x.keys.length ≤ c1) (h2 : Kd.string.C w A2 x.vals.length x.vals) (l2 : x.vals.length ≤ c2) (h3 : (Kd.int .i64).C w A3 x.kids.length x.kids) (l3 : x.kids.length ≤ c3) : At w (.agg #[.bool x.leaf, .slice A1 x.keys.length c1, .slice A2 x.vals.length c2, .slice A3 x.kids.length c3]) x :=
  ⟨A1, c1, A2, c2, A3, c3, rfl, ⟨h1, l1⟩, ⟨h2, l2⟩, ⟨h3, l3⟩⟩
set_option maxHeartbeats 1000000 in
set_option maxRecDepth 100000 in
theorem ref_walk (x : Nd) (v : Value) (w : World) (H : At w v x) :
    Calls Try.prog 16 #[v] w fun e w' => ∃ v', e = .returned v' ∧ At w' v' x ∧ Below w.heap.size w w' := by
  obtain ⟨A1, c1, A2, c2, A3, c3, rfl, ⟨h1, l1⟩, ⟨h2, l2⟩, ⟨h3, l3⟩⟩ := H
  obtain ⟨leaf, keys, vals, kids⟩ := x
  simp only at h1 l1 h2 l2 h3 l3 ⊢
  have hx : Hid (((w.alloc (.cells #[.bool leaf, .slice A1 keys.length c1, .slice A2 vals.length c2, .slice A3 kids.length c3] 29)).alloc (.cells #[.bool false, .slice none 0 0, .slice none 0 0, .slice none 0 0] 36)).heap[w.heap.size]? = some (.cells #[.bool leaf, .slice A1 keys.length c1, .slice A2 vals.length c2, .slice A3 kids.length c3] 29 (0, 0))) := hid (alloc2_fst w _ _)
  have hr : Hid (((w.alloc (.cells #[.bool leaf, .slice A1 keys.length c1, .slice A2 vals.length c2, .slice A3 kids.length c3] 29)).alloc (.cells #[.bool false, .slice none 0 0, .slice none 0 0, .slice none 0 0] 36)).heap[w.heap.size + 1]? = some (.cells #[.bool false, .slice none 0 0, .slice none 0 0, .slice none 0 0] 36 (0, 0))) := hid (alloc2_snd w _ _)
  have hB := hid (below_alloc (below_alloc (Below.refl w.heap.size w) (.cells #[.bool leaf, .slice A1 keys.length c1, .slice A2 vals.length c2, .slice A3 kids.length c3] 29)) (.cells #[.bool false, .slice none 0 0, .slice none 0 0, .slice none 0 0] 36))
  go_enter Try.func16, Try.ntmps16
  go_upto_region 1 with fail
  generalize (w.alloc (.cells #[.bool leaf, .slice A1 keys.length c1, .slice A2 vals.length c2, .slice A3 kids.length c3] 29)).alloc (.cells #[.bool false, .slice none 0 0, .slice none 0 0, .slice none 0 0] 36) = w1 at *
  have d0 : w1.cell? ⟨w.heap.size, 0, none⟩ = some (.bool leaf) := (blk_cell hx.out 0).trans rfl
  have d1 : w1.cell? ⟨w.heap.size, 1, none⟩ = some (.slice A1 keys.length c1) := (blk_cell hx.out 1).trans rfl
  have d2 : w1.cell? ⟨w.heap.size, 2, none⟩ = some (.slice A2 vals.length c2) := (blk_cell hx.out 2).trans rfl
  have d3 : w1.cell? ⟨w.heap.size, 3, none⟩ = some (.slice A3 kids.length c3) := (blk_cell hx.out 3).trans rfl
  have e0 : w1.cell? ⟨w.heap.size + 1, 0, none⟩ = some (.bool false) := (blk_cell hr.out 0).trans rfl
  have f0 := blk_frozen (w := w1) hr.out 0
  have e1 : w1.cell? ⟨w.heap.size + 1, 1, none⟩ = some (.slice none 0 0) := (blk_cell hr.out 1).trans rfl
  have f1 := blk_frozen (w := w1) hr.out 1
  have e2 : w1.cell? ⟨w.heap.size + 1, 2, none⟩ = some (.slice none 0 0) := (blk_cell hr.out 2).trans rfl
  have f2 := blk_frozen (w := w1) hr.out 2
  have e3 : w1.cell? ⟨w.heap.size + 1, 3, none⟩ = some (.slice none 0 0) := (blk_cell hr.out 3).trans rfl
  have f3 := blk_frozen (w := w1) hr.out 3
  have hZ := hid (blk_set (blk_set (blk_set (blk_set hr.out 0 (.bool leaf)) 1 (.slice A1 keys.length c1)) 2 (.slice A2 vals.length c2)) 3 (.slice A3 kids.length c3))
  have hb := hid (below_set (below_set (below_set (below_set hB.out (Nat.le_succ _) 0 (.bool leaf)) (Nat.le_succ _) 1 (.slice A1 keys.length c1)) (Nat.le_succ _) 2 (.slice A2 vals.length c2)) (Nat.le_succ _) 3 (.slice A3 kids.length c3))
  go_wp2_with fail
  refine bodyPost_ret (results_cell_row rfl _ _ (w.heap.size + 1) 36 #[.bool leaf, .slice A1 keys.length c1, .slice A2 vals.length c2, .slice A3 kids.length c3] (0, 0) _ rfl hZ.out Try.underlying36 rfl (by kernel_rfl)) rfl ?_
  exact ⟨_, rfl, At.mk_ (x := ⟨leaf, keys, vals, kids⟩) (Kd.C_below h1 hb.out) l1 (Kd.C_below h2 hb.out) l2 (Kd.C_below h3 hb.out) l3, hb.out⟩
theorem C_far1 {α : Type} {enc : α → Value} {h1 : ∀ x, (enc x).oneCell' = true} {w : World} {A : Option Addr} {n : Nat} {xs : List α} (h : (Kd.scalar enc h1).C w A n xs) {g : Nat} (hf : ∀ ad, A = some ad → ad.block ≠ g) (i : Nat) (u : Value) : (Kd.scalar enc h1).C (w.setCell ⟨g, i, none⟩ u) A n xs := by
  refine ⟨h.1, h.2.1, fun hn => ?_⟩
  obtain ⟨ad, e, hc⟩ := h.2.2 hn
  refine ⟨ad, e, fun j p hj => ?_⟩
  obtain ⟨c, hs, hr, hcell⟩ := hc j p hj
  refine ⟨c, hs, hr, fun k x hx => ?_⟩
  have hb : (ad.add (j * (Kd.scalar enc h1).sz + k)).block = ad.block := by unfold Addr.add; split <;> rfl
  have he := Below.heap_setCell w ⟨g, i, none⟩ u (ad.add (j * (Kd.scalar enc h1).sz + k)).block (by rw [hb]; exact hf ad e)
  have := hcell k x hx
  simpa [World.cell?, he] using this
def laidF {α : Type} (l more : List α) (a g : Nat) : List α := l.take a ++ more ++ l.drop (a + g)
def withoutF (x : Nd) (i : Int) : Nd := if x.leaf = true ∧ 0 ≤ i ∧ i < x.keys.length then ⟨true, laidF x.keys [] i.toNat 1, laidF x.vals [] i.toNat 1, []⟩ else x
def unhangF (x : Nd) (i : Int) : Nd := if x.leaf = false ∧ 0 ≤ i ∧ i < x.keys.length then ⟨false, laidF x.keys [] i.toNat 1, [], laidF x.kids [] (i.toNat + 1) 1⟩ else x
set_option maxHeartbeats 1000000 in
set_option maxRecDepth 100000 in
theorem without_walk (x : Nd) (v : Value) (i : Int) (w : World) (H : At w v x) (hk : x.keys.length ≤ 1099511627776) (hv : x.vals.length ≤ 1099511627776) (hi : x.kids.length ≤ 1099511627776) :
    Calls Try.prog 21 #[v, .int .i64 i] w fun e w' => ∃ v', e = .returned v' ∧ At w' v' (withoutF x i) ∧ Below w.heap.size w w' := by
  obtain ⟨A1, c1, A2, c2, A3, c3, rfl, ⟨h1, l1⟩, ⟨h2, l2⟩, ⟨h3, l3⟩⟩ := H
  obtain ⟨leaf, keys, vals, kids⟩ := x
  simp only at h1 l1 h2 l2 h3 l3 ⊢
  have hx : Hid (((w.alloc (.cells #[.bool leaf, .slice A1 keys.length c1, .slice A2 vals.length c2, .slice A3 kids.length c3] 29)).alloc (.cells #[.bool false, .slice none 0 0, .slice none 0 0, .slice none 0 0] 29)).heap[w.heap.size]? = some (.cells #[.bool leaf, .slice A1 keys.length c1, .slice A2 vals.length c2, .slice A3 kids.length c3] 29 (0, 0))) := hid (alloc2_fst w _ _)
  have hr : Hid (((w.alloc (.cells #[.bool leaf, .slice A1 keys.length c1, .slice A2 vals.length c2, .slice A3 kids.length c3] 29)).alloc (.cells #[.bool false, .slice none 0 0, .slice none 0 0, .slice none 0 0] 29)).heap[w.heap.size + 1]? = some (.cells #[.bool false, .slice none 0 0, .slice none 0 0, .slice none 0 0] 29 (0, 0))) := hid (alloc2_snd w _ _)
  have hB := hid (below_alloc (below_alloc (Below.refl w.heap.size w) (.cells #[.bool leaf, .slice A1 keys.length c1, .slice A2 vals.length c2, .slice A3 kids.length c3] 29)) (.cells #[.bool false, .slice none 0 0, .slice none 0 0, .slice none 0 0] 29))
  simp only at hk hv hi
  replace h1 := hid h1
  replace h2 := hid h2
  replace h3 := hid h3
  replace l1 := hid l1
  replace l2 := hid l2
  replace l3 := hid l3
  rw [withoutF]
  simp only
  by_cases hc : ¬ leaf = true
  · obtain rfl : leaf = false := by simpa using hc
    rw [if_neg (by simp)]
    go_enter Try.func21, Try.ntmps21
    go_upto_region 1 with fail
    generalize (w.alloc (.cells #[.bool false, .slice A1 keys.length c1, .slice A2 vals.length c2, .slice A3 kids.length c3] 29)).alloc (.cells #[.bool false, .slice none 0 0, .slice none 0 0, .slice none 0 0] 29) = w1 at *
    have d0 : w1.cell? ⟨w.heap.size, 0, none⟩ = some (.bool false) := (blk_cell hx.out 0).trans rfl
    have d1 : w1.cell? ⟨w.heap.size, 1, none⟩ = some (.slice A1 keys.length c1) := (blk_cell hx.out 1).trans rfl
    have d2 : w1.cell? ⟨w.heap.size, 2, none⟩ = some (.slice A2 vals.length c2) := (blk_cell hx.out 2).trans rfl
    have d3 : w1.cell? ⟨w.heap.size, 3, none⟩ = some (.slice A3 kids.length c3) := (blk_cell hx.out 3).trans rfl
    have e0 : w1.cell? ⟨w.heap.size + 1, 0, none⟩ = some (.bool false) := (blk_cell hr.out 0).trans rfl
    have f0 := blk_frozen (w := w1) hr.out 0
    have e1 : w1.cell? ⟨w.heap.size + 1, 1, none⟩ = some (.slice none 0 0) := (blk_cell hr.out 1).trans rfl
    have f1 := blk_frozen (w := w1) hr.out 1
    have e2 : w1.cell? ⟨w.heap.size + 1, 2, none⟩ = some (.slice none 0 0) := (blk_cell hr.out 2).trans rfl
    have f2 := blk_frozen (w := w1) hr.out 2
    have e3 : w1.cell? ⟨w.heap.size + 1, 3, none⟩ = some (.slice none 0 0) := (blk_cell hr.out 3).trans rfl
    have f3 := blk_frozen (w := w1) hr.out 3
    have hZ := hid (blk_set (blk_set (blk_set (blk_set hr.out 0 (.bool false)) 1 (.slice A1 keys.length c1)) 2 (.slice A2 vals.length c2)) 3 (.slice A3 kids.length c3))
    have hb := hid (below_set (below_set (below_set (below_set hB.out (Nat.le_succ _) 0 (.bool false)) (Nat.le_succ _) 1 (.slice A1 keys.length c1)) (Nat.le_succ _) 2 (.slice A2 vals.length c2)) (Nat.le_succ _) 3 (.slice A3 kids.length c3))
    go_wp2_with fail
    refine bodyPost_ret (results_cell_row rfl _ _ (w.heap.size + 1) 29 #[.bool false, .slice A1 keys.length c1, .slice A2 vals.length c2, .slice A3 kids.length c3] (0, 0) _ rfl hZ.out Try.underlying29 rfl (by kernel_rfl)) rfl ?_
    exact ⟨_, rfl, At.mk_ (x := ⟨false, keys, vals, kids⟩) (Kd.C_below h1.out hb.out) l1.out (Kd.C_below h2.out hb.out) l2.out (Kd.C_below h3.out hb.out) l3.out, hb.out⟩
  obtain rfl : leaf = true := by simpa using hc
  clear hc
  by_cases g1 : ¬ (0 ≤ i ∧ i < (keys.length : Int))
  · rw [if_neg (by simpa using g1)]
    have g2 : i < 0 ∨ (¬ i < 0 ∧ (keys.length : Int) ≤ i) := by omega
    clear hk hv hi g1
    rcases g2 with g2 | ⟨g2, g3⟩
    · go_enter Try.func21, Try.ntmps21
      go_upto_region 1 with fail
      generalize (w.alloc (.cells #[.bool true, .slice A1 keys.length c1, .slice A2 vals.length c2, .slice A3 kids.length c3] 29)).alloc (.cells #[.bool false, .slice none 0 0, .slice none 0 0, .slice none 0 0] 29) = w1 at *
      have d0 : w1.cell? ⟨w.heap.size, 0, none⟩ = some (.bool true) := (blk_cell hx.out 0).trans rfl
      have d1 : w1.cell? ⟨w.heap.size, 1, none⟩ = some (.slice A1 keys.length c1) := (blk_cell hx.out 1).trans rfl
      have d2 : w1.cell? ⟨w.heap.size, 2, none⟩ = some (.slice A2 vals.length c2) := (blk_cell hx.out 2).trans rfl
      have d3 : w1.cell? ⟨w.heap.size, 3, none⟩ = some (.slice A3 kids.length c3) := (blk_cell hx.out 3).trans rfl
      have e0 : w1.cell? ⟨w.heap.size + 1, 0, none⟩ = some (.bool false) := (blk_cell hr.out 0).trans rfl
      have f0 := blk_frozen (w := w1) hr.out 0
      have e1 : w1.cell? ⟨w.heap.size + 1, 1, none⟩ = some (.slice none 0 0) := (blk_cell hr.out 1).trans rfl
      have f1 := blk_frozen (w := w1) hr.out 1
      have e2 : w1.cell? ⟨w.heap.size + 1, 2, none⟩ = some (.slice none 0 0) := (blk_cell hr.out 2).trans rfl
      have f2 := blk_frozen (w := w1) hr.out 2
      have e3 : w1.cell? ⟨w.heap.size + 1, 3, none⟩ = some (.slice none 0 0) := (blk_cell hr.out 3).trans rfl
      have f3 := blk_frozen (w := w1) hr.out 3
      have hZ := hid (blk_set (blk_set (blk_set (blk_set hr.out 0 (.bool true)) 1 (.slice A1 keys.length c1)) 2 (.slice A2 vals.length c2)) 3 (.slice A3 kids.length c3))
      have hb := hid (below_set (below_set (below_set (below_set hB.out (Nat.le_succ _) 0 (.bool true)) (Nat.le_succ _) 1 (.slice A1 keys.length c1)) (Nat.le_succ _) 2 (.slice A2 vals.length c2)) (Nat.le_succ _) 3 (.slice A3 kids.length c3))
      go_wp2_with fail
      refine bodyPost_ret (results_cell_row rfl _ _ (w.heap.size + 1) 29 #[.bool true, .slice A1 keys.length c1, .slice A2 vals.length c2, .slice A3 kids.length c3] (0, 0) _ rfl hZ.out Try.underlying29 rfl (by kernel_rfl)) rfl ?_
      exact ⟨_, rfl, At.mk_ (x := ⟨true, keys, vals, kids⟩) (Kd.C_below h1.out hb.out) l1.out (Kd.C_below h2.out hb.out) l2.out (Kd.C_below h3.out hb.out) l3.out, hb.out⟩
    · go_enter Try.func21, Try.ntmps21
      go_upto_region 1 with fail
      generalize (w.alloc (.cells #[.bool true, .slice A1 keys.length c1, .slice A2 vals.length c2, .slice A3 kids.length c3] 29)).alloc (.cells #[.bool false, .slice none 0 0, .slice none 0 0, .slice none 0 0] 29) = w1 at *
      have d0 : w1.cell? ⟨w.heap.size, 0, none⟩ = some (.bool true) := (blk_cell hx.out 0).trans rfl
      have d1 : w1.cell? ⟨w.heap.size, 1, none⟩ = some (.slice A1 keys.length c1) := (blk_cell hx.out 1).trans rfl
      have d2 : w1.cell? ⟨w.heap.size, 2, none⟩ = some (.slice A2 vals.length c2) := (blk_cell hx.out 2).trans rfl
      have d3 : w1.cell? ⟨w.heap.size, 3, none⟩ = some (.slice A3 kids.length c3) := (blk_cell hx.out 3).trans rfl
      have e0 : w1.cell? ⟨w.heap.size + 1, 0, none⟩ = some (.bool false) := (blk_cell hr.out 0).trans rfl
      have f0 := blk_frozen (w := w1) hr.out 0
      have e1 : w1.cell? ⟨w.heap.size + 1, 1, none⟩ = some (.slice none 0 0) := (blk_cell hr.out 1).trans rfl
      have f1 := blk_frozen (w := w1) hr.out 1
      have e2 : w1.cell? ⟨w.heap.size + 1, 2, none⟩ = some (.slice none 0 0) := (blk_cell hr.out 2).trans rfl
      have f2 := blk_frozen (w := w1) hr.out 2
      have e3 : w1.cell? ⟨w.heap.size + 1, 3, none⟩ = some (.slice none 0 0) := (blk_cell hr.out 3).trans rfl
      have f3 := blk_frozen (w := w1) hr.out 3
      have hZ := hid (blk_set (blk_set (blk_set (blk_set hr.out 0 (.bool true)) 1 (.slice A1 keys.length c1)) 2 (.slice A2 vals.length c2)) 3 (.slice A3 kids.length c3))
      have hb := hid (below_set (below_set (below_set (below_set hB.out (Nat.le_succ _) 0 (.bool true)) (Nat.le_succ _) 1 (.slice A1 keys.length c1)) (Nat.le_succ _) 2 (.slice A2 vals.length c2)) (Nat.le_succ _) 3 (.slice A3 kids.length c3))
      go_wp2_with fail
      refine bodyPost_ret (results_cell_row rfl _ _ (w.heap.size + 1) 29 #[.bool true, .slice A1 keys.length c1, .slice A2 vals.length c2, .slice A3 kids.length c3] (0, 0) _ rfl hZ.out Try.underlying29 rfl (by kernel_rfl)) rfl ?_
      exact ⟨_, rfl, At.mk_ (x := ⟨true, keys, vals, kids⟩) (Kd.C_below h1.out hb.out) l1.out (Kd.C_below h2.out hb.out) l2.out (Kd.C_below h3.out hb.out) l3.out, hb.out⟩
  · replace g1 := Classical.not_not.1 g1
    rw [if_pos ⟨rfl, g1⟩]
    obtain ⟨k, rfl⟩ := Int.eq_ofNat_of_zero_le g1.1
    rw [Int.toNat_natCast]
    have g2 : ¬ ((k : Int) < 0) := by omega
    have g3 : ¬ ((keys.length : Int) ≤ k) := by omega
    have gk : k ≤ 1099511627776 := by omega
    have HK := hid (fun W (hb : Below w.heap.size w W) => laidK keys [] k 1 A1 none c1 0 W (Kd.C_below h1.out hb) l1.out (Kd.C_nil _ W) gk (by omega) hk (by simp))
    have H2 := hid (fun W (hb : Below w.heap.size w W) => laidS vals [] k 1 A2 none c2 0 W (Kd.C_below h2.out hb) l2.out (Kd.C_nil _ W) (by omega) (by omega) hv (by simp))
    rw [show laidF keys [] k 1 = keys.take k ++ [] ++ keys.drop (k + 1) from rfl, show laidF vals [] k 1 = vals.take k ++ [] ++ vals.drop (k + 1) from rfl]
    generalize keys.take k ++ [] ++ keys.drop (k + 1) = r1 at HK ⊢
    generalize vals.take k ++ [] ++ vals.drop (k + 1) = r2 at H2 ⊢
    clear hk hv hi g1 gk
    go_enter Try.func21, Try.ntmps21
    go_upto_region 1 with fail
    generalize (w.alloc (.cells #[.bool true, .slice A1 keys.length c1, .slice A2 vals.length c2, .slice A3 kids.length c3] 29)).alloc (.cells #[.bool false, .slice none 0 0, .slice none 0 0, .slice none 0 0] 29) = w1 at *
    have d0 : w1.cell? ⟨w.heap.size, 0, none⟩ = some (.bool true) := (blk_cell hx.out 0).trans rfl
    have d1 : w1.cell? ⟨w.heap.size, 1, none⟩ = some (.slice A1 keys.length c1) := (blk_cell hx.out 1).trans rfl
    have d2 : w1.cell? ⟨w.heap.size, 2, none⟩ = some (.slice A2 vals.length c2) := (blk_cell hx.out 2).trans rfl
    have d3 : w1.cell? ⟨w.heap.size, 3, none⟩ = some (.slice A3 kids.length c3) := (blk_cell hx.out 3).trans rfl
    have e0 : w1.cell? ⟨w.heap.size + 1, 0, none⟩ = some (.bool false) := (blk_cell hr.out 0).trans rfl
    have f0 := blk_frozen (w := w1) hr.out 0
    have e1 : w1.cell? ⟨w.heap.size + 1, 1, none⟩ = some (.slice none 0 0) := (blk_cell hr.out 1).trans rfl
    have f1 := blk_frozen (w := w1) hr.out 1
    have e2 : w1.cell? ⟨w.heap.size + 1, 2, none⟩ = some (.slice none 0 0) := (blk_cell hr.out 2).trans rfl
    have f2 := blk_frozen (w := w1) hr.out 2
    have e3 : w1.cell? ⟨w.heap.size + 1, 3, none⟩ = some (.slice none 0 0) := (blk_cell hr.out 3).trans rfl
    have f3 := blk_frozen (w := w1) hr.out 3
    go_upto_region 3 with fail
    refine start_ (n := 10) (S := fun w' => Below w1.heap.size w1 w') (ds := [9]) #[false, false, false, false, false, false, false, false, false, false] (by kernel_rfl) rfl rfl (below_drew (Below.refl _ _)) (fun hHeld => ?_)
    refine pure_ (i := 0) (N := some 20) (v := ?_) (a' := ?_) #[true, false, false, false, false, false, false, false, false, false] rfl rfl (by kernel_rfl) (fun _ _ _ h => h) (Or.inl ⟨by rfl, ?_⟩) ?_ ?_
    rotate_left
    · intro w'
      go_simp
      with_reducible rfl
    rotate_left
    · simp only [Act.put, List.setIfInBounds_toArray, List.set_cons_zero, List.set_cons_succ, i64_w, i32_w]
      rfl
    refine take_ (i := 1) (N := some 21) (v := ?_) (a' := ?_) #[true, true, false, false, false, false, false, false, false, false] rfl rfl (by kernel_rfl) (fun _ _ _ h => h) (Or.inl ⟨by rfl, ?_⟩) hHeld ?_ ?_
    rotate_left
    · rintro w' hb'
      have dd := pw_cell_below hb' d1
      go_simp
      with_reducible rfl
    rotate_left
    · simp only [Act.put, List.setIfInBounds_toArray, List.set_cons_zero, List.set_cons_succ, i64_w, i32_w]
      rfl
    refine pure_ (i := 2) (N := some 22) (v := ?_) (a' := ?_) #[true, true, true, false, false, false, false, false, false, false] rfl rfl (by kernel_rfl) (fun _ _ _ h => h) (Or.inl ⟨by rfl, ?_⟩) ?_ ?_
    rotate_left
    · intro w'
      go_simp
      with_reducible rfl
    rotate_left
    · simp only [Act.put, List.setIfInBounds_toArray, List.set_cons_zero, List.set_cons_succ, i64_w, i32_w]
      rfl
    refine pure_ (i := 4) (N := some 24) (v := ?_) (a' := ?_) #[true, true, true, false, true, false, false, false, false, false] rfl rfl (by kernel_rfl) (fun _ _ _ h => h) (Or.inl ⟨by rfl, ?_⟩) ?_ ?_
    rotate_left
    · intro w'
      go_simp
      with_reducible rfl
    rotate_left
    · simp only [Act.put, List.setIfInBounds_toArray, List.set_cons_zero, List.set_cons_succ, i64_w, i32_w]
      rfl
    refine take_ (i := 5) (N := some 25) (v := ?_) (a' := ?_) #[true, true, true, false, true, true, false, false, false, false] rfl rfl (by kernel_rfl) (fun _ _ _ h => h) (Or.inl ⟨by rfl, ?_⟩) hHeld ?_ ?_
    rotate_left
    · rintro w' hb'
      have dd := pw_cell_below hb' d2
      go_simp
      with_reducible rfl
    rotate_left
    · simp only [Act.put, List.setIfInBounds_toArray, List.set_cons_zero, List.set_cons_succ, i64_w, i32_w]
      rfl
    refine pure_ (i := 6) (N := some 26) (v := ?_) (a' := ?_) #[true, true, true, false, true, true, true, false, false, false] rfl rfl (by kernel_rfl) (fun _ _ _ h => h) (Or.inl ⟨by rfl, ?_⟩) ?_ ?_
    rotate_left
    · intro w'
      go_simp
      with_reducible rfl
    rotate_left
    · simp only [Act.put, List.setIfInBounds_toArray, List.set_cons_zero, List.set_cons_succ, i64_w, i32_w]
      rfl
    refine one_ (i := 3) (N := some 23) #[true, true, true, true, true, true, true, false, false, false] rfl rfl (by kernel_rfl) (by decide) (fun K hK => ?_)
    refine goes_ Try.func35 (by kernel_rfl) rfl #[.slice A1 keys.length c1, .int .i64 (k : Int), .int .i64 1, .slice none 0 0] (by rfl) rfl rfl (by (try simp only [List.map_toArray, List.map_cons, List.map_nil]); first | done | rfl) ?_
    refine (HK.out _ (below_drew hB.out)).mono ?_
    rintro r w5 ⟨A5, c5, rfl, q1, q2, q3, q4⟩
    replace q1 := hid q1
    replace q2 := hid q2
    have q5 := hid (fun ad (e : A5 = some ad) => (show ad.block ≠ w.heap.size + 1 from by have h1 := q4 ad e; have h2 : w.heap.size + 1 < w1.heap.size := blk_lt hr.out; have h3 : w1.heap.size ≤ w1.drew.heap.size := Nat.le_refl _; omega))
    have s3 := below_then (below_drew (Below.refl _ _)) (Nat.le_refl _) q3
    have t3 := hid (below_then (below_drew hB.out) (below_drew hB.out).size q3)
    refine ⟨_, rfl, ?_⟩
    refine hK.out _ _ s3 (fun hHeld => ?_)
    clear hK K
    refine norm_ (a' := ?_) ?_ ?_
    rotate_left
    · show Act.put _ (some 23) _ = _
      simp only [Act.put, List.setIfInBounds_toArray, List.set_cons_zero, List.set_cons_succ, i64_w, i32_w]
      rfl
    refine one_ (i := 7) (N := some 27) #[true, true, true, true, true, true, true, true, false, false] rfl rfl (by kernel_rfl) (by decide) (fun K hK => ?_)
    refine goes_ Try.func47 (by kernel_rfl) rfl #[.slice A2 vals.length c2, .int .i64 (k : Int), .int .i64 1, .slice none 0 0] (by rfl) rfl rfl (by (try simp only [List.map_toArray, List.map_cons, List.map_nil]); first | done | rfl) ?_
    skip
    refine (H2.out _ t3.out).mono ?_
    rintro r w6 ⟨A6, c6, rfl, p1, p2, p3, p4⟩
    replace p1 := hid p1
    replace p2 := hid p2
    have p5 := hid (fun ad (e : A6 = some ad) => (show ad.block ≠ w.heap.size + 1 from by have h1 := p4 ad e; have h2 : w.heap.size + 1 < w5.heap.size := blk_lt ((s3.block _ (blk_lt hr.out)).trans hr.out); omega))
    have s4 := below_then s3 s3.size p3
    replace q2 := hid (Kd.C_below q2.out p3)
    have hbx := hid (below_then t3.out t3.out.size p3)
    replace hr := hid ((s4.block _ (blk_lt hr.out)).trans hr.out)
    refine ⟨_, rfl, ?_⟩
    refine hK.out _ _ s4 (fun hHeld => ?_)
    clear hK K
    refine norm_ (a' := ?_) ?_ ?_
    rotate_left
    · show Act.put _ (some 27) _ = _
      simp only [Act.put, List.setIfInBounds_toArray, List.set_cons_zero, List.set_cons_succ, i64_w, i32_w]
      rfl
    refine pure_ (i := 8) (N := some 28) (v := ?_) (a' := ?_) #[true, true, true, true, true, true, true, true, true, false] rfl rfl (by kernel_rfl) (fun _ _ _ h => h) (Or.inl ⟨by rfl, ?_⟩) ?_ ?_
    rotate_left
    · intro w'
      go_simp
      with_reducible rfl
    rotate_left
    · simp only [Act.put, List.setIfInBounds_toArray, List.set_cons_zero, List.set_cons_succ, i64_w, i32_w]
      rfl
    have y0 : w6.cell? ⟨w.heap.size + 1, 0, none⟩ = some (.bool false) := (blk_cell hr.out 0).trans rfl
    have z0 := blk_frozen (w := w6) hr.out 0
    have y1 : w6.cell? ⟨w.heap.size + 1, 1, none⟩ = some (.slice none 0 0) := (blk_cell hr.out 1).trans rfl
    have z1 := blk_frozen (w := w6) hr.out 1
    have y2 : w6.cell? ⟨w.heap.size + 1, 2, none⟩ = some (.slice none 0 0) := (blk_cell hr.out 2).trans rfl
    have z2 := blk_frozen (w := w6) hr.out 2
    have y3 : w6.cell? ⟨w.heap.size + 1, 3, none⟩ = some (.slice none 0 0) := (blk_cell hr.out 3).trans rfl
    have z3 := blk_frozen (w := w6) hr.out 3
    refine last_ (i := 9) (N := none) #[true, true, true, true, true, true, true, true, true, true] rfl rfl (by kernel_rfl) (by decide) (fun K hK => ?_)
    refine skip_ (w1 := ?_) (by rfl) rfl ?_ ?_
    rotate_left
    · go_simp
      with_reducible rfl
    refine hK.out _ _ ?_
    clear hK K
    refine done_ (by kernel_rfl) ?_
    have hZ := hid (blk_set (blk_set (blk_set (blk_set hr.out 0 (.bool true)) 1 (.slice A5 r1.length c5)) 2 (.slice A6 r2.length c6)) 3 (.slice none 0 0))
    have hb := hid (below_set (below_set (below_set (below_set hbx.out (Nat.le_succ _) 0 (.bool true)) (Nat.le_succ _) 1 (.slice A5 r1.length c5)) (Nat.le_succ _) 2 (.slice A6 r2.length c6)) (Nat.le_succ _) 3 (.slice none 0 0))
    go_wp2_with fail
    refine bodyPost_ret (results_cell_row rfl _ _ (w.heap.size + 1) 29 #[.bool true, .slice A5 r1.length c5, .slice A6 r2.length c6, .slice none 0 0] (0, 0) _ rfl hZ.out Try.underlying29 rfl (by kernel_rfl)) rfl ?_
    have hq := hid (C_far1 (C_far1 (C_far1 (C_far1 q2.out q5.out 0 (.bool true)) q5.out 1 (.slice A5 r1.length c5)) q5.out 2 (.slice A6 r2.length c6)) q5.out 3 (.slice none 0 0))
    have hp := hid (C_far1 (C_far1 (C_far1 (C_far1 p2.out p5.out 0 (.bool true)) p5.out 1 (.slice A5 r1.length c5)) p5.out 2 (.slice A6 r2.length c6)) p5.out 3 (.slice none 0 0))
    exact ⟨_, rfl, At.mk_ (x := ⟨true, r1, r2, []⟩) hq.out q1.out hp.out p1.out (Kd.C_nil _ _) (Nat.le_refl _), hb.out⟩
set_option maxHeartbeats 1000000 in
set_option maxRecDepth 100000 in
theorem unhang_walk (x : Nd) (v : Value) (i : Int) (w : World) (H : At w v x) (hk : x.keys.length ≤ 1099511627776) (hv : x.vals.length ≤ 1099511627776) (hi : x.kids.length ≤ 1099511627776) :
    Calls Try.prog 15 #[v, .int .i64 i] w fun e w' => ∃ v', e = .returned v' ∧ At w' v' (unhangF x i) ∧ Below w.heap.size w w' := by
  obtain ⟨A1, c1, A2, c2, A3, c3, rfl, ⟨h1, l1⟩, ⟨h2, l2⟩, ⟨h3, l3⟩⟩ := H
  obtain ⟨leaf, keys, vals, kids⟩ := x
  simp only at h1 l1 h2 l2 h3 l3 ⊢
  have hx : Hid (((w.alloc (.cells #[.bool leaf, .slice A1 keys.length c1, .slice A2 vals.length c2, .slice A3 kids.length c3] 29)).alloc (.cells #[.bool false, .slice none 0 0, .slice none 0 0, .slice none 0 0] 29)).heap[w.heap.size]? = some (.cells #[.bool leaf, .slice A1 keys.length c1, .slice A2 vals.length c2, .slice A3 kids.length c3] 29 (0, 0))) := hid (alloc2_fst w _ _)
  have hr : Hid (((w.alloc (.cells #[.bool leaf, .slice A1 keys.length c1, .slice A2 vals.length c2, .slice A3 kids.length c3] 29)).alloc (.cells #[.bool false, .slice none 0 0, .slice none 0 0, .slice none 0 0] 29)).heap[w.heap.size + 1]? = some (.cells #[.bool false, .slice none 0 0, .slice none 0 0, .slice none 0 0] 29 (0, 0))) := hid (alloc2_snd w _ _)
  have hB := hid (below_alloc (below_alloc (Below.refl w.heap.size w) (.cells #[.bool leaf, .slice A1 keys.length c1, .slice A2 vals.length c2, .slice A3 kids.length c3] 29)) (.cells #[.bool false, .slice none 0 0, .slice none 0 0, .slice none 0 0] 29))
  simp only at hk hv hi
  replace h1 := hid h1
  replace h2 := hid h2
  replace h3 := hid h3
  replace l1 := hid l1
  replace l2 := hid l2
  replace l3 := hid l3
  rw [unhangF]
  simp only
  by_cases hc : ¬ leaf = false
  · obtain rfl : leaf = true := by simpa using hc
    rw [if_neg (by simp)]
    go_enter Try.func15, Try.ntmps15
    go_upto_region 1 with fail
    generalize (w.alloc (.cells #[.bool true, .slice A1 keys.length c1, .slice A2 vals.length c2, .slice A3 kids.length c3] 29)).alloc (.cells #[.bool false, .slice none 0 0, .slice none 0 0, .slice none 0 0] 29) = w1 at *
    have d0 : w1.cell? ⟨w.heap.size, 0, none⟩ = some (.bool true) := (blk_cell hx.out 0).trans rfl
    have d1 : w1.cell? ⟨w.heap.size, 1, none⟩ = some (.slice A1 keys.length c1) := (blk_cell hx.out 1).trans rfl
    have d2 : w1.cell? ⟨w.heap.size, 2, none⟩ = some (.slice A2 vals.length c2) := (blk_cell hx.out 2).trans rfl
    have d3 : w1.cell? ⟨w.heap.size, 3, none⟩ = some (.slice A3 kids.length c3) := (blk_cell hx.out 3).trans rfl
    have e0 : w1.cell? ⟨w.heap.size + 1, 0, none⟩ = some (.bool false) := (blk_cell hr.out 0).trans rfl
    have f0 := blk_frozen (w := w1) hr.out 0
    have e1 : w1.cell? ⟨w.heap.size + 1, 1, none⟩ = some (.slice none 0 0) := (blk_cell hr.out 1).trans rfl
    have f1 := blk_frozen (w := w1) hr.out 1
    have e2 : w1.cell? ⟨w.heap.size + 1, 2, none⟩ = some (.slice none 0 0) := (blk_cell hr.out 2).trans rfl
    have f2 := blk_frozen (w := w1) hr.out 2
    have e3 : w1.cell? ⟨w.heap.size + 1, 3, none⟩ = some (.slice none 0 0) := (blk_cell hr.out 3).trans rfl
    have f3 := blk_frozen (w := w1) hr.out 3
    have hZ := hid (blk_set (blk_set (blk_set (blk_set hr.out 0 (.bool true)) 1 (.slice A1 keys.length c1)) 2 (.slice A2 vals.length c2)) 3 (.slice A3 kids.length c3))
    have hb := hid (below_set (below_set (below_set (below_set hB.out (Nat.le_succ _) 0 (.bool true)) (Nat.le_succ _) 1 (.slice A1 keys.length c1)) (Nat.le_succ _) 2 (.slice A2 vals.length c2)) (Nat.le_succ _) 3 (.slice A3 kids.length c3))
    go_wp2_with fail
    refine bodyPost_ret (results_cell_row rfl _ _ (w.heap.size + 1) 29 #[.bool true, .slice A1 keys.length c1, .slice A2 vals.length c2, .slice A3 kids.length c3] (0, 0) _ rfl hZ.out Try.underlying29 rfl (by kernel_rfl)) rfl ?_
    exact ⟨_, rfl, At.mk_ (x := ⟨true, keys, vals, kids⟩) (Kd.C_below h1.out hb.out) l1.out (Kd.C_below h2.out hb.out) l2.out (Kd.C_below h3.out hb.out) l3.out, hb.out⟩
  obtain rfl : leaf = false := by simpa using hc
  clear hc
  by_cases g1 : ¬ (0 ≤ i ∧ i < (keys.length : Int))
  · rw [if_neg (by simpa using g1)]
    have g2 : i < 0 ∨ (¬ i < 0 ∧ (keys.length : Int) ≤ i) := by omega
    clear hk hv hi g1
    rcases g2 with g2 | ⟨g2, g3⟩
    · go_enter Try.func15, Try.ntmps15
      go_upto_region 1 with fail
      generalize (w.alloc (.cells #[.bool false, .slice A1 keys.length c1, .slice A2 vals.length c2, .slice A3 kids.length c3] 29)).alloc (.cells #[.bool false, .slice none 0 0, .slice none 0 0, .slice none 0 0] 29) = w1 at *
      have d0 : w1.cell? ⟨w.heap.size, 0, none⟩ = some (.bool false) := (blk_cell hx.out 0).trans rfl
      have d1 : w1.cell? ⟨w.heap.size, 1, none⟩ = some (.slice A1 keys.length c1) := (blk_cell hx.out 1).trans rfl
      have d2 : w1.cell? ⟨w.heap.size, 2, none⟩ = some (.slice A2 vals.length c2) := (blk_cell hx.out 2).trans rfl
      have d3 : w1.cell? ⟨w.heap.size, 3, none⟩ = some (.slice A3 kids.length c3) := (blk_cell hx.out 3).trans rfl
      have e0 : w1.cell? ⟨w.heap.size + 1, 0, none⟩ = some (.bool false) := (blk_cell hr.out 0).trans rfl
      have f0 := blk_frozen (w := w1) hr.out 0
      have e1 : w1.cell? ⟨w.heap.size + 1, 1, none⟩ = some (.slice none 0 0) := (blk_cell hr.out 1).trans rfl
      have f1 := blk_frozen (w := w1) hr.out 1
      have e2 : w1.cell? ⟨w.heap.size + 1, 2, none⟩ = some (.slice none 0 0) := (blk_cell hr.out 2).trans rfl
      have f2 := blk_frozen (w := w1) hr.out 2
      have e3 : w1.cell? ⟨w.heap.size + 1, 3, none⟩ = some (.slice none 0 0) := (blk_cell hr.out 3).trans rfl
      have f3 := blk_frozen (w := w1) hr.out 3
      have hZ := hid (blk_set (blk_set (blk_set (blk_set hr.out 0 (.bool false)) 1 (.slice A1 keys.length c1)) 2 (.slice A2 vals.length c2)) 3 (.slice A3 kids.length c3))
      have hb := hid (below_set (below_set (below_set (below_set hB.out (Nat.le_succ _) 0 (.bool false)) (Nat.le_succ _) 1 (.slice A1 keys.length c1)) (Nat.le_succ _) 2 (.slice A2 vals.length c2)) (Nat.le_succ _) 3 (.slice A3 kids.length c3))
      go_wp2_with fail
      refine bodyPost_ret (results_cell_row rfl _ _ (w.heap.size + 1) 29 #[.bool false, .slice A1 keys.length c1, .slice A2 vals.length c2, .slice A3 kids.length c3] (0, 0) _ rfl hZ.out Try.underlying29 rfl (by kernel_rfl)) rfl ?_
      exact ⟨_, rfl, At.mk_ (x := ⟨false, keys, vals, kids⟩) (Kd.C_below h1.out hb.out) l1.out (Kd.C_below h2.out hb.out) l2.out (Kd.C_below h3.out hb.out) l3.out, hb.out⟩
    · go_enter Try.func15, Try.ntmps15
      go_upto_region 1 with fail
      generalize (w.alloc (.cells #[.bool false, .slice A1 keys.length c1, .slice A2 vals.length c2, .slice A3 kids.length c3] 29)).alloc (.cells #[.bool false, .slice none 0 0, .slice none 0 0, .slice none 0 0] 29) = w1 at *
      have d0 : w1.cell? ⟨w.heap.size, 0, none⟩ = some (.bool false) := (blk_cell hx.out 0).trans rfl
      have d1 : w1.cell? ⟨w.heap.size, 1, none⟩ = some (.slice A1 keys.length c1) := (blk_cell hx.out 1).trans rfl
      have d2 : w1.cell? ⟨w.heap.size, 2, none⟩ = some (.slice A2 vals.length c2) := (blk_cell hx.out 2).trans rfl
      have d3 : w1.cell? ⟨w.heap.size, 3, none⟩ = some (.slice A3 kids.length c3) := (blk_cell hx.out 3).trans rfl
      have e0 : w1.cell? ⟨w.heap.size + 1, 0, none⟩ = some (.bool false) := (blk_cell hr.out 0).trans rfl
      have f0 := blk_frozen (w := w1) hr.out 0
      have e1 : w1.cell? ⟨w.heap.size + 1, 1, none⟩ = some (.slice none 0 0) := (blk_cell hr.out 1).trans rfl
      have f1 := blk_frozen (w := w1) hr.out 1
      have e2 : w1.cell? ⟨w.heap.size + 1, 2, none⟩ = some (.slice none 0 0) := (blk_cell hr.out 2).trans rfl
      have f2 := blk_frozen (w := w1) hr.out 2
      have e3 : w1.cell? ⟨w.heap.size + 1, 3, none⟩ = some (.slice none 0 0) := (blk_cell hr.out 3).trans rfl
      have f3 := blk_frozen (w := w1) hr.out 3
      have hZ := hid (blk_set (blk_set (blk_set (blk_set hr.out 0 (.bool false)) 1 (.slice A1 keys.length c1)) 2 (.slice A2 vals.length c2)) 3 (.slice A3 kids.length c3))
      have hb := hid (below_set (below_set (below_set (below_set hB.out (Nat.le_succ _) 0 (.bool false)) (Nat.le_succ _) 1 (.slice A1 keys.length c1)) (Nat.le_succ _) 2 (.slice A2 vals.length c2)) (Nat.le_succ _) 3 (.slice A3 kids.length c3))
      go_wp2_with fail
      refine bodyPost_ret (results_cell_row rfl _ _ (w.heap.size + 1) 29 #[.bool false, .slice A1 keys.length c1, .slice A2 vals.length c2, .slice A3 kids.length c3] (0, 0) _ rfl hZ.out Try.underlying29 rfl (by kernel_rfl)) rfl ?_
      exact ⟨_, rfl, At.mk_ (x := ⟨false, keys, vals, kids⟩) (Kd.C_below h1.out hb.out) l1.out (Kd.C_below h2.out hb.out) l2.out (Kd.C_below h3.out hb.out) l3.out, hb.out⟩
  · replace g1 := Classical.not_not.1 g1
    rw [if_pos ⟨rfl, g1⟩]
    obtain ⟨k, rfl⟩ := Int.eq_ofNat_of_zero_le g1.1
    rw [Int.toNat_natCast]
    have g2 : ¬ ((k : Int) < 0) := by omega
    have g3 : ¬ ((keys.length : Int) ≤ k) := by omega
    have gk : k ≤ 1099511627776 := by omega
    have gw : wrap64 ((k : Int) + 1) = ((k + 1 : Nat) : Int) := by unfold wrap64; omega
    have HK := hid (fun W (hb : Below w.heap.size w W) => laidK keys [] k 1 A1 none c1 0 W (Kd.C_below h1.out hb) l1.out (Kd.C_nil _ W) gk (by omega) hk (by simp))
    have H2 := hid (fun W (hb : Below w.heap.size w W) => laidI kids [] (k + 1) 1 A3 none c3 0 W (Kd.C_below h3.out hb) l3.out (Kd.C_nil _ W) (by omega) (by omega) hi (by simp))
    rw [show laidF keys [] k 1 = keys.take k ++ [] ++ keys.drop (k + 1) from rfl, show laidF kids [] (k + 1) 1 = kids.take (k + 1) ++ [] ++ kids.drop ((k + 1) + 1) from rfl]
    generalize keys.take k ++ [] ++ keys.drop (k + 1) = r1 at HK ⊢
    generalize kids.take (k + 1) ++ [] ++ kids.drop ((k + 1) + 1) = r2 at H2 ⊢
    clear hk hv hi g1 gk
    go_enter Try.func15, Try.ntmps15
    go_upto_region 1 with fail
    generalize (w.alloc (.cells #[.bool false, .slice A1 keys.length c1, .slice A2 vals.length c2, .slice A3 kids.length c3] 29)).alloc (.cells #[.bool false, .slice none 0 0, .slice none 0 0, .slice none 0 0] 29) = w1 at *
    have d0 : w1.cell? ⟨w.heap.size, 0, none⟩ = some (.bool false) := (blk_cell hx.out 0).trans rfl
    have d1 : w1.cell? ⟨w.heap.size, 1, none⟩ = some (.slice A1 keys.length c1) := (blk_cell hx.out 1).trans rfl
    have d2 : w1.cell? ⟨w.heap.size, 2, none⟩ = some (.slice A2 vals.length c2) := (blk_cell hx.out 2).trans rfl
    have d3 : w1.cell? ⟨w.heap.size, 3, none⟩ = some (.slice A3 kids.length c3) := (blk_cell hx.out 3).trans rfl
    have e0 : w1.cell? ⟨w.heap.size + 1, 0, none⟩ = some (.bool false) := (blk_cell hr.out 0).trans rfl
    have f0 := blk_frozen (w := w1) hr.out 0
    have e1 : w1.cell? ⟨w.heap.size + 1, 1, none⟩ = some (.slice none 0 0) := (blk_cell hr.out 1).trans rfl
    have f1 := blk_frozen (w := w1) hr.out 1
    have e2 : w1.cell? ⟨w.heap.size + 1, 2, none⟩ = some (.slice none 0 0) := (blk_cell hr.out 2).trans rfl
    have f2 := blk_frozen (w := w1) hr.out 2
    have e3 : w1.cell? ⟨w.heap.size + 1, 3, none⟩ = some (.slice none 0 0) := (blk_cell hr.out 3).trans rfl
    have f3 := blk_frozen (w := w1) hr.out 3
    go_upto_region 3 with fail
    refine start_ (n := 11) (S := fun w' => Below w1.heap.size w1 w') (ds := [10]) #[false, false, false, false, false, false, false, false, false, false, false] (by kernel_rfl) rfl rfl (below_drew (Below.refl _ _)) (fun hHeld => ?_)
    refine pure_ (i := 0) (N := some 19) (v := ?_) (a' := ?_) #[true, false, false, false, false, false, false, false, false, false, false] rfl rfl (by kernel_rfl) (fun _ _ _ h => h) (Or.inl ⟨by rfl, ?_⟩) ?_ ?_
    rotate_left
    · intro w'
      go_simp
      with_reducible rfl
    rotate_left
    · simp only [Act.put, List.setIfInBounds_toArray, List.set_cons_zero, List.set_cons_succ, i64_w, i32_w]
      rfl
    refine take_ (i := 1) (N := some 20) (v := ?_) (a' := ?_) #[true, true, false, false, false, false, false, false, false, false, false] rfl rfl (by kernel_rfl) (fun _ _ _ h => h) (Or.inl ⟨by rfl, ?_⟩) hHeld ?_ ?_
    rotate_left
    · rintro w' hb'
      have dd := pw_cell_below hb' d1
      go_simp
      with_reducible rfl
    rotate_left
    · simp only [Act.put, List.setIfInBounds_toArray, List.set_cons_zero, List.set_cons_succ, i64_w, i32_w]
      rfl
    refine pure_ (i := 2) (N := some 21) (v := ?_) (a' := ?_) #[true, true, true, false, false, false, false, false, false, false, false] rfl rfl (by kernel_rfl) (fun _ _ _ h => h) (Or.inl ⟨by rfl, ?_⟩) ?_ ?_
    rotate_left
    · intro w'
      go_simp
      with_reducible rfl
    rotate_left
    · simp only [Act.put, List.setIfInBounds_toArray, List.set_cons_zero, List.set_cons_succ, i64_w, i32_w]
      rfl
    refine pure_ (i := 4) (N := some 23) (v := ?_) (a' := ?_) #[true, true, true, false, true, false, false, false, false, false, false] rfl rfl (by kernel_rfl) (fun _ _ _ h => h) (Or.inl ⟨by rfl, ?_⟩) ?_ ?_
    rotate_left
    · intro w'
      go_simp
      with_reducible rfl
    rotate_left
    · simp only [Act.put, List.setIfInBounds_toArray, List.set_cons_zero, List.set_cons_succ, i64_w, i32_w]
      rfl
    refine take_ (i := 5) (N := some 24) (v := ?_) (a' := ?_) #[true, true, true, false, true, true, false, false, false, false, false] rfl rfl (by kernel_rfl) (fun _ _ _ h => h) (Or.inl ⟨by rfl, ?_⟩) hHeld ?_ ?_
    rotate_left
    · rintro w' hb'
      have dd := pw_cell_below hb' d3
      go_simp
      with_reducible rfl
    rotate_left
    · simp only [Act.put, List.setIfInBounds_toArray, List.set_cons_zero, List.set_cons_succ, i64_w, i32_w]
      rfl
    refine pure_ (i := 6) (N := some 25) (v := ?_) (a' := ?_) #[true, true, true, false, true, true, true, false, false, false, false] rfl rfl (by kernel_rfl) (fun _ _ _ h => h) (Or.inl ⟨by rfl, ?_⟩) ?_ ?_
    rotate_left
    · intro w'
      go_simp
      with_reducible rfl
    rotate_left
    · simp only [Act.put, List.setIfInBounds_toArray, List.set_cons_zero, List.set_cons_succ, i64_w, i32_w]
      rfl
    refine pure_ (i := 7) (N := some 26) (v := ?_) (a' := ?_) #[true, true, true, false, true, true, true, true, false, false, false] rfl rfl (by kernel_rfl) (fun _ _ _ h => h) (Or.inl ⟨by rfl, ?_⟩) ?_ ?_
    rotate_left
    · intro w'
      go_simp
      with_reducible rfl
    rotate_left
    · simp only [Act.put, List.setIfInBounds_toArray, List.set_cons_zero, List.set_cons_succ, i64_w, i32_w]
      rfl
    refine one_ (i := 3) (N := some 22) #[true, true, true, true, true, true, true, true, false, false, false] rfl rfl (by kernel_rfl) (by decide) (fun K hK => ?_)
    refine goes_ Try.func35 (by kernel_rfl) rfl #[.slice A1 keys.length c1, .int .i64 (k : Int), .int .i64 1, .slice none 0 0] (by rfl) rfl rfl (by (try simp only [List.map_toArray, List.map_cons, List.map_nil]); first | done | rfl) ?_
    refine (HK.out _ (below_drew hB.out)).mono ?_
    rintro r w5 ⟨A5, c5, rfl, q1, q2, q3, q4⟩
    replace q1 := hid q1
    replace q2 := hid q2
    have q5 := hid (fun ad (e : A5 = some ad) => (show ad.block ≠ w.heap.size + 1 from by have h1 := q4 ad e; have h2 : w.heap.size + 1 < w1.heap.size := blk_lt hr.out; have h3 : w1.heap.size ≤ w1.drew.heap.size := Nat.le_refl _; omega))
    have s3 := below_then (below_drew (Below.refl _ _)) (Nat.le_refl _) q3
    have t3 := hid (below_then (below_drew hB.out) (below_drew hB.out).size q3)
    refine ⟨_, rfl, ?_⟩
    refine hK.out _ _ s3 (fun hHeld => ?_)
    clear hK K
    refine norm_ (a' := ?_) ?_ ?_
    rotate_left
    · show Act.put _ (some 22) _ = _
      simp only [Act.put, List.setIfInBounds_toArray, List.set_cons_zero, List.set_cons_succ, i64_w, i32_w]
      rfl
    refine one_ (i := 8) (N := some 27) #[true, true, true, true, true, true, true, true, true, false, false] rfl rfl (by kernel_rfl) (by decide) (fun K hK => ?_)
    refine goes_ Try.func36 (by kernel_rfl) rfl #[.slice A3 kids.length c3, .int .i64 (wrap64 ((k : Int) + 1)), .int .i64 1, .slice none 0 0] (by rfl) rfl rfl (by (try simp only [List.map_toArray, List.map_cons, List.map_nil]); first | done | rfl) ?_
    rw [gw]
    refine (H2.out _ t3.out).mono ?_
    rintro r w6 ⟨A6, c6, rfl, p1, p2, p3, p4⟩
    replace p1 := hid p1
    replace p2 := hid p2
    have p5 := hid (fun ad (e : A6 = some ad) => (show ad.block ≠ w.heap.size + 1 from by have h1 := p4 ad e; have h2 : w.heap.size + 1 < w5.heap.size := blk_lt ((s3.block _ (blk_lt hr.out)).trans hr.out); omega))
    have s4 := below_then s3 s3.size p3
    replace q2 := hid (Kd.C_below q2.out p3)
    have hbx := hid (below_then t3.out t3.out.size p3)
    replace hr := hid ((s4.block _ (blk_lt hr.out)).trans hr.out)
    refine ⟨_, rfl, ?_⟩
    refine hK.out _ _ s4 (fun hHeld => ?_)
    clear hK K
    refine norm_ (a' := ?_) ?_ ?_
    rotate_left
    · show Act.put _ (some 27) _ = _
      simp only [Act.put, List.setIfInBounds_toArray, List.set_cons_zero, List.set_cons_succ, i64_w, i32_w]
      rfl
    refine pure_ (i := 9) (N := some 28) (v := ?_) (a' := ?_) #[true, true, true, true, true, true, true, true, true, true, false] rfl rfl (by kernel_rfl) (fun _ _ _ h => h) (Or.inl ⟨by rfl, ?_⟩) ?_ ?_
    rotate_left
    · intro w'
      go_simp
      with_reducible rfl
    rotate_left
    · simp only [Act.put, List.setIfInBounds_toArray, List.set_cons_zero, List.set_cons_succ, i64_w, i32_w]
      rfl
    have y0 : w6.cell? ⟨w.heap.size + 1, 0, none⟩ = some (.bool false) := (blk_cell hr.out 0).trans rfl
    have z0 := blk_frozen (w := w6) hr.out 0
    have y1 : w6.cell? ⟨w.heap.size + 1, 1, none⟩ = some (.slice none 0 0) := (blk_cell hr.out 1).trans rfl
    have z1 := blk_frozen (w := w6) hr.out 1
    have y2 : w6.cell? ⟨w.heap.size + 1, 2, none⟩ = some (.slice none 0 0) := (blk_cell hr.out 2).trans rfl
    have z2 := blk_frozen (w := w6) hr.out 2
    have y3 : w6.cell? ⟨w.heap.size + 1, 3, none⟩ = some (.slice none 0 0) := (blk_cell hr.out 3).trans rfl
    have z3 := blk_frozen (w := w6) hr.out 3
    refine last_ (i := 10) (N := none) #[true, true, true, true, true, true, true, true, true, true, true] rfl rfl (by kernel_rfl) (by decide) (fun K hK => ?_)
    refine skip_ (w1 := ?_) (by rfl) rfl ?_ ?_
    rotate_left
    · go_simp
      with_reducible rfl
    refine hK.out _ _ ?_
    clear hK K
    refine done_ (by kernel_rfl) ?_
    have hZ := hid (blk_set (blk_set (blk_set (blk_set hr.out 0 (.bool false)) 1 (.slice A5 r1.length c5)) 2 (.slice none 0 0)) 3 (.slice A6 r2.length c6))
    have hb := hid (below_set (below_set (below_set (below_set hbx.out (Nat.le_succ _) 0 (.bool false)) (Nat.le_succ _) 1 (.slice A5 r1.length c5)) (Nat.le_succ _) 2 (.slice none 0 0)) (Nat.le_succ _) 3 (.slice A6 r2.length c6))
    go_wp2_with fail
    refine bodyPost_ret (results_cell_row rfl _ _ (w.heap.size + 1) 29 #[.bool false, .slice A5 r1.length c5, .slice none 0 0, .slice A6 r2.length c6] (0, 0) _ rfl hZ.out Try.underlying29 rfl (by kernel_rfl)) rfl ?_
    have hq := hid (C_far1 (C_far1 (C_far1 (C_far1 q2.out q5.out 0 (.bool false)) q5.out 1 (.slice A5 r1.length c5)) q5.out 2 (.slice none 0 0)) q5.out 3 (.slice A6 r2.length c6))
    have hp := hid (C_far1 (C_far1 (C_far1 (C_far1 p2.out p5.out 0 (.bool false)) p5.out 1 (.slice A5 r1.length c5)) p5.out 2 (.slice none 0 0)) p5.out 3 (.slice A6 r2.length c6))
    exact ⟨_, rfl, At.mk_ (x := ⟨false, r1, [], r2⟩) hq.out q1.out (Kd.C_nil _ _) (Nat.le_refl _) hp.out p1.out, hb.out⟩
end Go.Proofs.Ytnghbfegijnolaa.A
