/-
  A node in memory; place; Find.
-/
import Derived.Test.YtnghbfegijnolaaA1
namespace Go.Proofs.Ytnghbfegijnolaa.A
set_option linter.unusedVariables false
set_option linter.unusedSimpArgs false
open Go.RowKit Go.Proofs.YtnghbfegijnolaaW.PrintWords Go.Proofs.YtnghbfegijnolaaW.PrintLast Go.Proofs.YtnghbfegijnolaaW.PrintMore
open Go.Lib (hid)
/-- A node, plainly. -/
structure Nd where
  leaf : Bool
  keys : List Int
  vals : List ByteArray
  kids : List Int
def At (w : World) (v : Value) (x : Nd) : Prop := ∃ A1 c1 A2 c2 A3 c3, v = .agg #[.bool x.leaf, .slice A1 x.keys.length c1, .slice A2 x.vals.length c2, .slice A3 x.kids.length c3] ∧
  ((Kd.int .u64).C w A1 x.keys.length x.keys ∧ x.keys.length ≤ c1) ∧ (Kd.string.C w A2 x.vals.length x.vals ∧ x.vals.length ≤ c2) ∧ ((Kd.int .i64).C w A3 x.kids.length x.kids ∧ x.kids.length ≤ c3)
theorem At.below {w w' : World} {v : Value} {x : Nd} (h : At w v x) (hb : Below w.heap.size w w') : At w' v x := by
  obtain ⟨A1, c1, A2, c2, A3, c3, e, ⟨h1, l1⟩, ⟨h2, l2⟩, ⟨h3, l3⟩⟩ := h
  exact ⟨A1, c1, A2, c2, A3, c3, e, ⟨Kd.C_below h1 hb, l1⟩, ⟨Kd.C_below h2 hb, l2⟩, ⟨Kd.C_below h3 hb, l3⟩⟩
theorem C_one {α : Type} {enc : α → Value} {h1 : ∀ x, (enc x).oneCell' = true} {w : World} {A : Option Addr} {n : Nat} {xs : List α} (h : (Kd.scalar enc h1).C w A n xs) (d : α) (i : Nat) (hi : i < xs.length) : ∃ ad, A = some ad ∧ w.cell? (ad.add i) = some (enc (xs.getD i d)) := by
  obtain ⟨ad, c, e, hl, hr, hc⟩ := ReadsRow.get_ h d i (by omega) (by have := h.1; omega)
  refine ⟨ad, e, ?_⟩
  have hr' : c = [enc (xs.getD (i : Int).toNat d)] := hr
  have := hc 0 (enc (xs.getD (i : Int).toNat d)) (by rw [hr']; rfl)
  simpa [Kd.scalar] using this
/-- Where a key stands, or would, by halves. -/
def placeF (keys : List Int) (key : Int) : Nat → Nat → Nat → Nat
  | 0, a, _ => a
  | k + 1, a, b => if a < b then (if keys.getD ((a + b) / 2) 0 = key then (a + b) / 2 else if keys.getD ((a + b) / 2) 0 < key then placeF keys key k ((a + b) / 2 + 1) b else placeF keys key k a ((a + b) / 2)) else a
theorem placeF_step (keys : List Int) (key : Int) (k a b : Nat) (h : a < b) : placeF keys key (k + 1) a b = if keys.getD ((a + b) / 2) 0 = key then (a + b) / 2 else if keys.getD ((a + b) / 2) 0 < key then placeF keys key k ((a + b) / 2 + 1) b else placeF keys key k a ((a + b) / 2) := by
  rw [placeF, if_pos h]
theorem placeF_le (keys : List Int) (key : Int) : ∀ k a b, a ≤ b → placeF keys key k a b ≤ b
  | 0, a, b, h => h
  | k + 1, a, b, h => by
    rw [placeF]
    split
    · split
      · omega
      · split
        · exact placeF_le keys key k _ b (by omega)
        · have := placeF_le keys key k a ((a + b) / 2) (by omega)
          omega
    · exact h
theorem placeF_end (keys : List Int) (key : Int) (k a b : Nat) (h : ¬ a < b) : placeF keys key k a b = a := by
  cases k with
  | zero => rfl
  | succ k => rw [placeF, if_neg h]
def place (keys : List Int) (key : Int) : Nat := placeF keys key keys.length 0 keys.length
def isAt (keys : List Int) (key : Int) : Bool := decide (place keys key < keys.length) && (keys.getD (place keys key) 0 == key)
set_option maxHeartbeats 1000000 in
set_option maxRecDepth 100000 in
theorem place_walk (keys : List Int) (key : Int) (A : Option Addr) (c : Nat) (w : World) (H : (Kd.int .u64).C w A keys.length keys) (hmx : keys.length ≤ 1099511627776) :
    Calls Try.prog 34 #[.slice A keys.length c, .int .u64 key] w fun e w' => e = .returned (.tuple #[.int .i64 (place keys key : Nat), .bool (isAt keys key)]) ∧ Below w.heap.size w w' := by
  have hmax := Kd.C_max H
  have hF := hid (placeF_le keys key keys.length 0 keys.length (Nat.zero_le _))
  have H0 := hid H
  obtain ⟨R, hR⟩ : ∃ R, R = place keys key := ⟨_, rfl⟩
  rw [isAt, ← hR]
  have hR0 : Hid (placeF keys key keys.length 0 keys.length = R) := hid hR.symm
  have hRle : R ≤ keys.length := by rw [hR]; exact hF.out
  replace hR := hid hR
  have hfin : (¬ R < keys.length) ∨ (R < keys.length ∧ keys.getD R 0 = key) ∨ (R < keys.length ∧ ¬ keys.getD R 0 = key) := by omega
  have HC := hid (fun i hi => C_one H 0 i hi)
  clear H hF
  generalize hn : keys.length = n at *
  replace hn := hid hn
  go_enter Try.func34, Try.ntmps34
  go_wp2_with fail
  go_step3
  go_wp2_with fail
  go_step3
  go_wp2_with fail
  go_loopg [6, 7] n (fun g lo hi wr => ∃ a b : Nat, lo = .int .i64 (a : Int) ∧ hi = .int .i64 (b : Int) ∧ a ≤ b ∧ b ≤ n ∧ b ≤ a + g ∧ Hid (placeF keys key g a b = R) ∧ Hid (wr = w))
  case atStart => exact ⟨0, n, rfl, rfl, by omega, by omega, by omega, hR0, hid rfl⟩
  case round =>
    obtain ⟨a, b, rfl, rfl, hab, hbn, hbg, hF, hwr⟩ := hrel
    rw [hwr.out]
    by_cases hlt : a < b
    · cases gk with
      | zero => omega
      | succ g =>
        have hmn : (a + b) / 2 < n := by omega
        obtain ⟨ad, hA, hc⟩ := HC.out ((a + b) / 2) (by omega)
        subst hA
        have hlt2 : (a : Int) < (b : Int) := by omega
        have hF2 := hF.out
        rw [placeF_step _ _ _ _ _ hlt] at hF2
        generalize hk : keys.getD ((a + b) / 2) 0 = x at hc hF2
        clear hF
        by_cases h1 : x = key
        · rw [if_pos h1] at hF2
          subst h1
          subst hF2
          have hk' := hid hk
          have hmn2 : ((a : Int) + b) / 2 < (n : Int) := by omega
          clear hk HC hbg hfin hR0
          go_wp2_with fail
          go_region
          go_wp2_with fail
          rw [Exit.noGoto_ret]
          go_ret2
          exact ⟨by rw [hk'.out]; simp [hmn], below_drew (Below.refl _ _)⟩
        · rw [if_neg h1] at hF2
          by_cases h2 : x < key
          · rw [if_pos h2] at hF2
            replace hF2 := hid hF2
            have hk' := hid hk
            clear hk hfin
            go_wp2_with fail
            go_roundg g
            case measure => omega
            case rel => exact ⟨(a + b) / 2 + 1, b, by first | rfl | go_num | (simp; done), rfl, by omega, hbn, by omega, hF2, hid rfl⟩
          · rw [if_neg h2] at hF2
            replace hF2 := hid hF2
            have hk' := hid hk
            clear hk hfin
            go_wp2_with fail
            go_roundg g
            case measure => omega
            case rel => exact ⟨a, (a + b) / 2, rfl, by first | rfl | go_num | (simp; done), by omega, by omega, by omega, hF2, hid rfl⟩
    · have hF2 := hF.out
      rw [placeF_end _ _ _ _ _ hlt] at hF2
      subst hF2
      have hlt3 : ¬ ((a : Int) < (b : Int)) := by omega
      rcases hfin with h | ⟨h, hk⟩ | ⟨h, hk⟩
      · have h2 : ¬ ((a : Int) < (n : Int)) := by omega
        clear hF HC hab hbn hbg hR0
        go_wp2_with fail
        go_region
        go_wp2_with fail
        rw [Exit.noGoto_ret]
        go_ret2
        exact ⟨by simp [h], below_drew (Below.refl _ _)⟩
      · obtain ⟨ad, hA, hc⟩ := HC.out a (by omega)
        subst hA
        rw [hk] at hc
        have hk' := hid hk
        have h2 : (a : Int) < (n : Int) := by omega
        clear hF HC hab hbn hbg hR0 hk
        go_wp2_with fail
        go_region
        go_wp2_with fail
        rw [Exit.noGoto_ret]
        go_ret2
        exact ⟨by rw [hk'.out]; simp [h], below_drew (Below.refl _ _)⟩
      · obtain ⟨ad, hA, hc⟩ := HC.out a (by omega)
        subst hA
        generalize hx : keys.getD a 0 = x at hc hk
        have hx' := hid hx
        have h2 : (a : Int) < (n : Int) := by omega
        clear hF HC hab hbn hbg hR0 hx
        go_wp2_with fail
        go_region
        go_wp2_with fail
        rw [Exit.noGoto_ret]
        go_ret2
        exact ⟨by rw [hx'.out]; simp [h, hk], below_drew (Below.refl _ _)⟩
/-- Find's answer. -/
def findF (x : Nd) (key : Int) : Int × Bool := if x.leaf = true then ((place x.keys key : Nat), isAt x.keys key) else (if isAt x.keys key = true then ((place x.keys key : Nat) : Int) + 1 else (place x.keys key : Nat), true)
set_option maxHeartbeats 1000000 in
set_option maxRecDepth 100000 in
theorem find_walk (x : Nd) (v : Value) (key : Int) (w : World) (H : At w v x) (hmx : x.keys.length ≤ 1099511627776) :
    Calls Try.prog 12 #[v, .int .u64 key] w fun e w' => e = .returned (.tuple #[.int .i64 (findF x key).1, .bool (findF x key).2]) ∧ Below w.heap.size w w' := by
  obtain ⟨A1, c1, A2, c2, A3, c3, rfl, ⟨h1, l1⟩, ⟨h2, l2⟩, ⟨h3, l3⟩⟩ := H
  have hB := hid (below_alloc (Below.refl w.heap.size w) (.cells #[.bool x.leaf, .slice A1 x.keys.length c1, .slice A2 x.vals.length c2, .slice A3 x.kids.length c3] 29))
  have hx : Hid ((w.alloc (.cells #[.bool x.leaf, .slice A1 x.keys.length c1, .slice A2 x.vals.length c2, .slice A3 x.kids.length c3] 29)).heap[w.heap.size]? = some (.cells #[.bool x.leaf, .slice A1 x.keys.length c1, .slice A2 x.vals.length c2, .slice A3 x.kids.length c3] 29 (0, 0))) := hid Array.getElem?_push_size
  have hP := hid (fun W hb => place_walk x.keys key A1 c1 W (Kd.C_below h1 hb) hmx)
  have hpl : ((place x.keys key : Nat) : Int) ≤ 1099511627776 := by have := placeF_le x.keys key x.keys.length 0 x.keys.length (Nat.zero_le _); unfold place; omega
  clear h1 h2 h3
  obtain ⟨leaf, keys, vals, kids⟩ := x
  simp only at hB hx hP hpl ⊢
  rw [findF]
  simp only
  generalize place keys key = p at hP hpl ⊢
  generalize isAt keys key = q at hP ⊢
  cases leaf <;> cases q <;>
  · go_enter Try.func12, Try.ntmps12
    go_upto_region 1 with fail
    generalize w.alloc (.cells #[.bool _, .slice A1 keys.length c1, .slice A2 vals.length c2, .slice A3 kids.length c3] 29) = w1 at *
    have d0 := (blk_cell hx.out 0).trans rfl
    have d1 := (blk_cell hx.out 1).trans rfl
    go_upto_region 2 with (first | ((with_reducible refine Calls.mono (hP.out _ hB.out) ?_); rintro r w2 ⟨rfl, hb2⟩; replace hx := hid ((hb2.block _ (blk_lt hx.out)).trans hx.out); replace hb2 := hid (below_then hB.out hB.out.size hb2)))
    clear d0 d1
    have d0 := (blk_cell hx.out 0).trans rfl
    go_wp2_with fail
    go_ret2
    exact ⟨rfl, hb2.out⟩
end Go.Proofs.Ytnghbfegijnolaa.A
