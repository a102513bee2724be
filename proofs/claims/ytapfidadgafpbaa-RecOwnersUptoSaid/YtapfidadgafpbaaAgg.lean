/-
  A struct of so many one-cell fields, by value: opened, and shut. (Printed by agg.py.) Of no program.
-/
import Derived.Lib.SmallJoins
namespace Go.Proofs.Ytapfidadgafpbaa.Agg
set_option linter.unusedVariables false
set_option linter.unusedSimpArgs false
open Go Go.Joins Go.Deep Go.ChangeShapes Go.WideShapes Go.ChangeAt Go.RowKit
variable {H : Type} {enc : TypeId × Value → H} {P : Program} {w : World} {base : Nat} {spare : Nat → Bool} {held : Bool}
theorem array4 {α : Type} {cs : Array α} (h : cs.size = 4) : ∃ c0 c1 c2 c3, cs = #[c0, c1, c2, c3] := by
  obtain ⟨l⟩ := cs
  match l, h with
  | [c0, c1, c2, c3], _ => exact ⟨c0, c1, c2, c3, rfl⟩
theorem trod_struct4 {t : TypeId} {f0 f1 f2 f3 : Field} {fuel : Nat} {cs : List Value} {x : DataW H × List MemPlace} (ht : P.underlying t = some (.struct #[f0, f1, f2, f3])) (h : DataW.trod enc P w base spare held fuel t cs = some x) :
    ∃ y0 y1 y2 y3 n, x = (.agg [y0.1, y1.1, y2.1, y3.1], y0.2 ++ (y1.2 ++ (y2.2 ++ y3.2))) ∧ cs.length = P.cellsOf t ∧ DataW.trod enc P w base spare held n f0.type ((cs.drop f0.offset).take (P.cellsOf f0.type)) = some y0 ∧ DataW.trod enc P w base spare held n f1.type ((cs.drop f1.offset).take (P.cellsOf f1.type)) = some y1 ∧ DataW.trod enc P w base spare held n f2.type ((cs.drop f2.offset).take (P.cellsOf f2.type)) = some y2 ∧ DataW.trod enc P w base spare held n f3.type ((cs.drop f3.offset).take (P.cellsOf f3.type)) = some y3 := by
  obtain ⟨xs, n, _, rfl, hl, hlen, hf⟩ := DataW.trod_struct ht h
  match xs, hlen with
  | [y0, y1, y2, y3], _ => exact ⟨y0, y1, y2, y3, n, by simp, hl, by simpa using hf 0 f0 rfl, by simpa using hf 1 f1 rfl, by simpa using hf 2 f2 rfl, by simpa using hf 3 f3 rfl⟩
theorem trod_struct4_mk {t : TypeId} {f0 f1 f2 f3 : Field} {n : Nat} {cs : List Value} {y0 y1 y2 y3 : DataW H × List MemPlace} (ht : P.underlying t = some (.struct #[f0, f1, f2, f3])) (hl : cs.length = P.cellsOf t)
    (h0 : DataW.trod enc P w base spare held n f0.type ((cs.drop f0.offset).take (P.cellsOf f0.type)) = some y0) (h1 : DataW.trod enc P w base spare held n f1.type ((cs.drop f1.offset).take (P.cellsOf f1.type)) = some y1) (h2 : DataW.trod enc P w base spare held n f2.type ((cs.drop f2.offset).take (P.cellsOf f2.type)) = some y2) (h3 : DataW.trod enc P w base spare held n f3.type ((cs.drop f3.offset).take (P.cellsOf f3.type)) = some y3) :
    DataW.trod enc P w base spare held (n + 1) t cs = some (.agg [y0.1, y1.1, y2.1, y3.1], y0.2 ++ (y1.2 ++ (y2.2 ++ y3.2))) := by
  have := trod_struct_mk (enc := enc) (w := w) (base := base) (spare := spare) (held := held) (n := n) (xs := [y0, y1, y2, y3]) ht hl (by simp [h0, h1, h2, h3])
  simpa using this
theorem open_agg4 {r : Reach} {b0 : Nat} {t : TypeId} {f0 f1 f2 f3 : Field} {v : Value} {d : DataW H} {p : List MemPlace} (hs : P.underlying t = some (.struct #[f0, f1, f2, f3])) (hone : oneCellFields P #[f0, f1, f2, f3] = true) (hC : P.cellsOf t = 4)
    (hv : Value.okWide P w r b0 t v) (h : DataW.Trod enc P w base spare held t v d p) :
    ∃ (v0 v1 v2 v3 : Value) (y0 y1 y2 y3 : DataW H × List MemPlace) (n : Nat), v = .agg #[v0, v1, v2, v3] ∧ d = .agg [y0.1, y1.1, y2.1, y3.1] ∧ p = y0.2 ++ (y1.2 ++ (y2.2 ++ y3.2)) ∧ DataW.trod enc P w base spare held n f0.type [v0] = some y0 ∧ DataW.trod enc P w base spare held n f1.type [v1] = some y1 ∧ DataW.trod enc P w base spare held n f2.type [v2] = some y2 ∧ DataW.trod enc P w base spare held n f3.type [v3] = some y3 := by
  obtain ⟨cs, rfl, hsz⟩ := okWide_struct hs hv
  obtain ⟨c0, c1, c2, c3, rfl⟩ := array4 (hsz.trans hC)
  obtain ⟨fuel, hf⟩ := h
  obtain ⟨y0, y1, y2, y3, n, hx, _, h0, h1, h2, h3⟩ := trod_struct4 hs hf
  obtain ⟨o0, k0⟩ := hone_of hone 0 f0 rfl
  obtain ⟨o1, k1⟩ := hone_of hone 1 f1 rfl
  obtain ⟨o2, k2⟩ := hone_of hone 2 f2 rfl
  obtain ⟨o3, k3⟩ := hone_of hone 3 f3 rfl
  simp only [Prod.mk.injEq] at hx
  exact ⟨c0, c1, c2, c3, y0, y1, y2, y3, n, rfl, hx.1, hx.2, by simpa [Value.cells, o0, k0] using h0, by simpa [Value.cells, o1, k1] using h1, by simpa [Value.cells, o2, k2] using h2, by simpa [Value.cells, o3, k3] using h3⟩
theorem shut_agg4 {t : TypeId} {f0 f1 f2 f3 : Field} {v0 v1 v2 v3 : Value} {y0 y1 y2 y3 : DataW H × List MemPlace} (hs : P.underlying t = some (.struct #[f0, f1, f2, f3])) (hone : oneCellFields P #[f0, f1, f2, f3] = true) (hC : P.cellsOf t = 4)
    (t0 : ∃ n, DataW.trod enc P w base spare held n f0.type [v0] = some y0) (t1 : ∃ n, DataW.trod enc P w base spare held n f1.type [v1] = some y1) (t2 : ∃ n, DataW.trod enc P w base spare held n f2.type [v2] = some y2) (t3 : ∃ n, DataW.trod enc P w base spare held n f3.type [v3] = some y3) :
    DataW.Trod enc P w base spare held t (.agg #[v0, v1, v2, v3]) (.agg [y0.1, y1.1, y2.1, y3.1]) (y0.2 ++ (y1.2 ++ (y2.2 ++ y3.2))) := by
  obtain ⟨n0, t0⟩ := t0
  obtain ⟨n1, t1⟩ := t1
  obtain ⟨n2, t2⟩ := t2
  obtain ⟨n3, t3⟩ := t3
  obtain ⟨o0, k0⟩ := hone_of hone 0 f0 rfl
  obtain ⟨o1, k1⟩ := hone_of hone 1 f1 rfl
  obtain ⟨o2, k2⟩ := hone_of hone 2 f2 rfl
  obtain ⟨o3, k3⟩ := hone_of hone 3 f3 rfl
  have ts := trod_struct4_mk (enc := enc) (w := w) (base := base) (spare := spare) (held := held) (n := n0 + n1 + n2 + n3) (cs := [v0, v1, v2, v3]) hs (by simp [hC])
    (by simpa [o0, k0] using DataW.trod_le (show n0 ≤ n0 + n1 + n2 + n3 by omega) t0) (by simpa [o1, k1] using DataW.trod_le (show n1 ≤ n0 + n1 + n2 + n3 by omega) t1) (by simpa [o2, k2] using DataW.trod_le (show n2 ≤ n0 + n1 + n2 + n3 by omega) t2) (by simpa [o3, k3] using DataW.trod_le (show n3 ≤ n0 + n1 + n2 + n3 by omega) t3)
  exact ⟨_, by simpa [Value.cells] using ts⟩
end Go.Proofs.Ytapfidadgafpbaa.Agg

