/-
  A row of bytes that a conversion of a string has made ('[]byte(s)'): it bears a mark behind its last cell. What is read of it, stored into it, and made of it. Of no program.
-/
import Derived.Lib.ConvBytes
import Derived.Laws.BytesArg
import Derived.Below
import Derived.Deep.Draws
import Derived.WalkKit
import Derived.WalkSpells
namespace Go.Proofs.Ytapfidadgafpbaa.M
set_option linter.unusedVariables false
set_option linter.unusedSimpArgs false
open Go.RowKit

/-- Block g is a row of bytes l, with something behind them that is of no account. -/
def MB (w : World) (g : Nat) (e : TypeId) (l : List UInt8) : Prop :=
  ∃ cs n, w.heap[g]? = some (.cells cs e (n, n + 1)) ∧ l.length ≤ n ∧ ∀ j (h : j < l.length), cs[j]? = some (.int .u8 ((l[j].toNat : Nat) : Int))
theorem MB.cell {w : World} {g : Nat} {e : TypeId} {l : List UInt8} (h : MB w g e l) (j : Nat) (hj : j < l.length) : w.cell? ⟨g, j, none⟩ = some (.int .u8 ((l[j].toNat : Nat) : Int)) := by
  obtain ⟨cs, n, hg, hn, hc⟩ := h
  simp [World.cell?, hg, hc j hj]
theorem MB.lt {w : World} {g : Nat} {e : TypeId} {l : List UInt8} (h : MB w g e l) : g < w.heap.size := by
  obtain ⟨cs, n, hg, _⟩ := h
  exact (Array.getElem?_eq_some_iff.1 hg).1
theorem MB.drew {w : World} {g : Nat} {e : TypeId} {l : List UInt8} (h : MB w g e l) : MB w.drew g e l := h
theorem MB.drewN {w : World} {g : Nat} {e : TypeId} {l : List UInt8} (h : MB w g e l) (n : Nat) : MB (w.drewN n) g e l := h
theorem MB.below {w w1 : World} {g : Nat} {e : TypeId} {l : List UInt8} (h : MB w g e l) (hb : Below w.heap.size w w1) : MB w1 g e l := by
  have hlt := h.lt
  obtain ⟨cs, n, hg, hn, hc⟩ := h
  exact ⟨cs, n, (hb.block g hlt).trans hg, hn, hc⟩
end Go.Proofs.Ytapfidadgafpbaa.M
