/-
  grow.
-/
import Derived.Test.YtnghbfegijnolaaA6
namespace Go.Proofs.Ytnghbfegijnolaa.A
set_option linter.unusedVariables false
set_option linter.unusedSimpArgs false
open Go.RowKit Go.Proofs.YtnghbfegijnolaaW.PrintWords Go.Proofs.YtnghbfegijnolaaW.PrintLast Go.Proofs.YtnghbfegijnolaaW.PrintMore
open Go.Lib (hid)
theorem C_ne {α : Type} {enc : α → Value} {h1 : ∀ x, (enc x).oneCell' = true} {w : World} {A : Option Addr} {n : Nat} {xs : List α} {g t : Nat} {b : Bool} {a1 a2 a3 : Option Addr} {n1 n2 n3 c1 c2 c3 : Nat} (hb0 : ∀ x b, enc x ≠ .bool b) (hs0 : ∀ x a n c, enc x ≠ .slice a n c)
    (h : (Kd.scalar enc h1).C w A n xs) (hb : w.heap[g]? = some (.cells #[.bool b, .slice a1 n1 c1, .slice a2 n2 c2, .slice a3 n3 c3] t (0, 0))) : n = 0 ∨ ∀ ad, A = some ad → ad.block ≠ g := by
  rcases Nat.eq_zero_or_pos n with h0 | hp
  · exact .inl h0
  · refine .inr fun ad e he => ?_
    subst e
    have hl : 0 < xs.length := by have := h.1; omega
    obtain ⟨ad', e', hc⟩ := C_one h xs[0] 0 hl
    injection e' with e'
    subst e'
    have ha : (ad.add 0).block = g := by rw [← he]; unfold Addr.add; split <;> rfl
    have hh : w.heap[(ad.add 0).block]? = some (.cells #[.bool b, .slice a1 n1 c1, .slice a2 n2 c2, .slice a3 n3 c3] t (0, 0)) := by rw [ha]; exact hb
    generalize ad.add 0 = q at hc hh
    unfold World.cell? at hc
    rw [hh] at hc
    simp only at hc
    split at hc
    · cases hc
    · rcases hq : q.off with _ | _ | _ | _ | m
      · rw [hq] at hc; exact hb0 _ b (Option.some.inj hc).symm
      · rw [hq] at hc; exact hs0 _ a1 n1 c1 (Option.some.inj hc).symm
      · rw [hq] at hc; exact hs0 _ a2 n2 c2 (Option.some.inj hc).symm
      · rw [hq] at hc; exact hs0 _ a3 n3 c3 (Option.some.inj hc).symm
      · rw [hq] at hc; simp at hc
def set4 (w : World) (g : Nat) (v0 v1 v2 v3 : Value) : World := (((w.setCell ⟨g, 0, none⟩ v0).setCell ⟨g, 1, none⟩ v1).setCell ⟨g, 2, none⟩ v2).setCell ⟨g, 3, none⟩ v3
theorem C_set4 {α : Type} {enc : α → Value} {h1 : ∀ x, (enc x).oneCell' = true} {w : World} {A : Option Addr} {n : Nat} {xs : List α} {g t : Nat} {b : Bool} {a1 a2 a3 : Option Addr} {n1 n2 n3 c1 c2 c3 : Nat} (hb0 : ∀ x b, enc x ≠ .bool b) (hs0 : ∀ x a n c, enc x ≠ .slice a n c)
    (h : (Kd.scalar enc h1).C w A n xs) (hb : w.heap[g]? = some (.cells #[.bool b, .slice a1 n1 c1, .slice a2 n2 c2, .slice a3 n3 c3] t (0, 0))) (v0 v1 v2 v3 : Value) : (Kd.scalar enc h1).C (set4 w g v0 v1 v2 v3) A n xs := by
  rcases C_ne hb0 hs0 h hb with rfl | hf
  · exact ⟨h.1, h.2.1, fun hn => absurd hn (Nat.lt_irrefl 0)⟩
  · exact C_far1 (C_far1 (C_far1 (C_far1 h hf 0 v0) hf 1 v1) hf 2 v2) hf 3 v3
theorem At.set4 {w : World} {v : Value} {x : Nd} (H : At w v x) {g t : Nat} {b : Bool} {a1 a2 a3 : Option Addr} {n1 n2 n3 d1 d2 d3 : Nat} (hb : w.heap[g]? = some (.cells #[.bool b, .slice a1 n1 d1, .slice a2 n2 d2, .slice a3 n3 d3] t (0, 0))) (v0 v1 v2 v3 : Value) : At (set4 w g v0 v1 v2 v3) v x := by
  obtain ⟨A1, c1, A2, c2, A3, c3, e, ⟨h1, l1⟩, ⟨h2, l2⟩, ⟨h3, l3⟩⟩ := H
  have z1 : ∀ (x : Int) (b : Bool), Value.int .u64 x ≠ .bool b := by intro x b h; cases h
  have z2 : ∀ (x : Int) (a : Option Addr) (n c : Nat), Value.int .u64 x ≠ .slice a n c := by intro x a n c h; cases h
  have z3 : ∀ (x : Int) (b : Bool), Value.int .i64 x ≠ .bool b := by intro x b h; cases h
  have z4 : ∀ (x : Int) (a : Option Addr) (n c : Nat), Value.int .i64 x ≠ .slice a n c := by intro x a n c h; cases h
  have z5 : ∀ (x : ByteArray) (b : Bool), Value.string x ≠ .bool b := by intro x b h; cases h
  have z6 : ∀ (x : ByteArray) (a : Option Addr) (n c : Nat), Value.string x ≠ .slice a n c := by intro x a n c h; cases h
  exact ⟨A1, c1, A2, c2, A3, c3, e, ⟨C_set4 z1 z2 h1 hb v0 v1 v2 v3, l1⟩, ⟨C_set4 z5 z6 h2 hb v0 v1 v2 v3, l2⟩, ⟨C_set4 z3 z4 h3 hb v0 v1 v2 v3, l3⟩⟩
theorem set4_at {w : World} {g t : Nat} {u0 u1 u2 u3 : Value} (hb : w.heap[g]? = some (.cells #[u0, u1, u2, u3] t (0, 0))) (v0 v1 v2 v3 : Value) : (set4 w g v0 v1 v2 v3).heap[g]? = some (.cells #[v0, v1, v2, v3] t (0, 0)) :=
  blk_set (blk_set (blk_set (blk_set hb 0 v0) 1 v1) 2 v2) 3 v3
theorem set4_below {w W : World} (h : Below w.heap.size w W) {g : Nat} (hg : w.heap.size ≤ g) (v0 v1 v2 v3 : Value) : Below w.heap.size w (set4 W g v0 v1 v2 v3) :=
  below_set (below_set (below_set (below_set h hg 0 v0) hg 1 v1) hg 2 v2) hg 3 v3
def cut40 (s : ByteArray) : ByteArray := s.extract 0 (min s.size 40)
theorem laidF_len {α : Type} (l more : List α) (a g : Nat) : (laidF l more a g).length ≤ l.length + more.length := by
  simp only [laidF, List.length_append, List.length_take, List.length_drop]
  omega
end Go.Proofs.Ytnghbfegijnolaa.A
