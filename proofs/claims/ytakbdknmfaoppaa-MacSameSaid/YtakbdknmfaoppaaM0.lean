/-
  A row of bytes that a conversion of a string has made ('[]byte(s)'): it bears a mark behind its last cell. What is read of it, stored into it, and made of it. Of no program.
-/
import Derived.Lib.ConvBytes
import Derived.Laws.BytesArg
import Derived.Below
import Derived.Deep.Draws
import Derived.WalkKit
import Derived.WalkSpells
namespace Go.Proofs.Ytakbdknmfaoppaa.M
set_option linter.unusedVariables false
set_option linter.unusedSimpArgs false
open Go.RowKit

/-- Block g is a row of bytes l, with something behind them that is of no account. -/
def MB (w : World) (g : Nat) (e : TypeId) (l : List UInt8) : Prop :=
  ∃ cs n, w.heap[g]? = some (.cells cs e (n, n + 1)) ∧ l.length ≤ n ∧ ∀ j (h : j < l.length), cs[j]? = some (.int .u8 ((l[j].toNat : Nat) : Int))
theorem MB.cell {w : World} {g : Nat} {e : TypeId} {l : List UInt8} (h : MB w g e l) (j : Nat) (hj : j < l.length) : w.cell? ⟨g, j, none⟩ = some (.int .u8 ((l[j].toNat : Nat) : Int)) := by
  obtain ⟨cs, n, hg, hn, hc⟩ := h
  simp [World.cell?, hg, hc j hj]
theorem MB.free {w : World} {g : Nat} {e : TypeId} {l : List UInt8} (h : MB w g e l) (j : Nat) (hj : j < l.length) : w.frozen? ⟨g, j, none⟩ = false := by
  obtain ⟨cs, n, hg, hn, hc⟩ := h
  simp [World.frozen?, hg]
  omega
theorem MB.lt {w : World} {g : Nat} {e : TypeId} {l : List UInt8} (h : MB w g e l) : g < w.heap.size := by
  obtain ⟨cs, n, hg, _⟩ := h
  exact (Array.getElem?_eq_some_iff.1 hg).1
theorem MB.set_ {w : World} {g : Nat} {e : TypeId} {l : List UInt8} (h : MB w g e l) (j : Nat) (c : UInt8) : MB (w.setCell ⟨g, j, none⟩ (.int .u8 ((c.toNat : Nat) : Int))) g e (l.set j c) := by
  obtain ⟨cs, n, hg, hn, hc⟩ := h
  refine ⟨cs.setIfInBounds j (.int .u8 ((c.toNat : Nat) : Int)), n, ?_, by simpa using hn, ?_⟩
  · simp [World.setCell, Array.getElem?_modify, hg]
  · intro i hi
    have hi' : i < l.length := by simpa using hi
    have hcs := hc i hi'
    have hlt : i < cs.size := (Array.getElem?_eq_some_iff.1 hcs).1
    rw [Array.getElem?_setIfInBounds, List.getElem_set]
    by_cases e : j = i
    · subst e
      simp [hlt]
    · simp [e, hcs]
theorem MB.drew {w : World} {g : Nat} {e : TypeId} {l : List UInt8} (h : MB w g e l) : MB w.drew g e l := h
theorem MB.drewN {w : World} {g : Nat} {e : TypeId} {l : List UInt8} (h : MB w g e l) (n : Nat) : MB (w.drewN n) g e l := h
theorem MB.below {w w1 : World} {g : Nat} {e : TypeId} {l : List UInt8} (h : MB w g e l) (hb : Below w.heap.size w w1) : MB w1 g e l := by
  have hlt := h.lt
  obtain ⟨cs, n, hg, hn, hc⟩ := h
  exact ⟨cs, n, (hb.block g hlt).trans hg, hn, hc⟩
theorem MB.of_block {w w1 : World} {g : Nat} {e : TypeId} {l : List UInt8} (h : MB w g e l) (hb : w1.heap[g]? = w.heap[g]?) : MB w1 g e l := by
  obtain ⟨cs, n, hg, hn, hc⟩ := h
  exact ⟨cs, n, hb.trans hg, hn, hc⟩
/-- The row that the conversion makes. -/
theorem MB.new (w : World) (e : TypeId) (s : ByteArray) : MB (Lib.bytesWorld w e s) w.heap.size e s.data.toList := by
  refine ⟨_, _, Lib.bytesWorld_at_new w e s, ?_, fun j hj => ?_⟩
  · simp [Lib.bytesCells]
  · have hj' : j < s.data.size := by simpa using hj
    have hj2 : j < s.size := hj'
    simp [Lib.bytesCells, Array.getElem?_append, hj2, hj']
theorem below_bytes (w : World) (e : TypeId) (s : ByteArray) : Below w.heap.size w (Lib.bytesWorld w e s) := by
  refine ⟨rfl, rfl, rfl, ?_, fun j hj => Lib.bytesWorld_at_old w e s j hj⟩
  rw [Lib.bytesWorld_size]
  omega
/-- 'string(b)'. -/
theorem MB.str {P : Program} {w : World} {g : Nat} {src e dst : TypeId} {l : List UInt8} (hs : P.underlying src = some (.slice e)) (he : P.underlying e = some (.int .u8)) (hd : P.underlying dst = some .string) (h : MB w g e l) (cap : Nat) :
    (convert src dst (.slice (some ⟨g, 0, none⟩) l.length cap)).run P w = .ok (.string ⟨l.toArray⟩) w := by
  have h2 := run_convert_bytes_arg (P := P) w src e hs he g 0 l.length cap (l.map fun b => (b.toNat : Int)) (by simp) (fun i hi => by
    rw [Nat.zero_add, h.cell i hi]
    simp [hi]) dst hd
  rw [h2]
  congr 2
  unfold strOfNums
  simp [List.map_map, Function.comp_def]
end Go.Proofs.Ytakbdknmfaoppaa.M
