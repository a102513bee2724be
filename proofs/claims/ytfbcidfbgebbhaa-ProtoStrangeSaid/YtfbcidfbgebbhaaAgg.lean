/-
  A struct of so many one-cell fields, by value: opened, and shut. (Printed by agg.py.) Of no program.
-/
import Derived.Lib.SmallJoins
namespace Go.Proofs.Ytfbcidfbgebbhaa.Agg
set_option linter.unusedVariables false
set_option linter.unusedSimpArgs false
open Go Go.Joins Go.Deep Go.ChangeShapes Go.WideShapes Go.ChangeAt Go.RowKit
variable {H : Type} {enc : TypeId × Value → H} {P : Program} {w : World} {base : Nat} {spare : Nat → Bool} {held : Bool}
theorem array13 {α : Type} {cs : Array α} (h : cs.size = 13) : ∃ c0 c1 c2 c3 c4 c5 c6 c7 c8 c9 c10 c11 c12, cs = #[c0, c1, c2, c3, c4, c5, c6, c7, c8, c9, c10, c11, c12] := by
  obtain ⟨l⟩ := cs
  match l, h with
  | [c0, c1, c2, c3, c4, c5, c6, c7, c8, c9, c10, c11, c12], _ => exact ⟨c0, c1, c2, c3, c4, c5, c6, c7, c8, c9, c10, c11, c12, rfl⟩
theorem trod_struct13 {t : TypeId} {f0 f1 f2 f3 f4 f5 f6 f7 f8 f9 f10 f11 f12 : Field} {fuel : Nat} {cs : List Value} {x : DataW H × List MemPlace} (ht : P.underlying t = some (.struct #[f0, f1, f2, f3, f4, f5, f6, f7, f8, f9, f10, f11, f12])) (h : DataW.trod enc P w base spare held fuel t cs = some x) :
    ∃ y0 y1 y2 y3 y4 y5 y6 y7 y8 y9 y10 y11 y12 n, x = (.agg [y0.1, y1.1, y2.1, y3.1, y4.1, y5.1, y6.1, y7.1, y8.1, y9.1, y10.1, y11.1, y12.1], y0.2 ++ (y1.2 ++ (y2.2 ++ (y3.2 ++ (y4.2 ++ (y5.2 ++ (y6.2 ++ (y7.2 ++ (y8.2 ++ (y9.2 ++ (y10.2 ++ (y11.2 ++ y12.2)))))))))))) ∧ cs.length = P.cellsOf t ∧ DataW.trod enc P w base spare held n f0.type ((cs.drop f0.offset).take (P.cellsOf f0.type)) = some y0 ∧ DataW.trod enc P w base spare held n f1.type ((cs.drop f1.offset).take (P.cellsOf f1.type)) = some y1 ∧ DataW.trod enc P w base spare held n f2.type ((cs.drop f2.offset).take (P.cellsOf f2.type)) = some y2 ∧ DataW.trod enc P w base spare held n f3.type ((cs.drop f3.offset).take (P.cellsOf f3.type)) = some y3 ∧ DataW.trod enc P w base spare held n f4.type ((cs.drop f4.offset).take (P.cellsOf f4.type)) = some y4 ∧ DataW.trod enc P w base spare held n f5.type ((cs.drop f5.offset).take (P.cellsOf f5.type)) = some y5 ∧ DataW.trod enc P w base spare held n f6.type ((cs.drop f6.offset).take (P.cellsOf f6.type)) = some y6 ∧ DataW.trod enc P w base spare held n f7.type ((cs.drop f7.offset).take (P.cellsOf f7.type)) = some y7 ∧ DataW.trod enc P w base spare held n f8.type ((cs.drop f8.offset).take (P.cellsOf f8.type)) = some y8 ∧ DataW.trod enc P w base spare held n f9.type ((cs.drop f9.offset).take (P.cellsOf f9.type)) = some y9 ∧ DataW.trod enc P w base spare held n f10.type ((cs.drop f10.offset).take (P.cellsOf f10.type)) = some y10 ∧ DataW.trod enc P w base spare held n f11.type ((cs.drop f11.offset).take (P.cellsOf f11.type)) = some y11 ∧ DataW.trod enc P w base spare held n f12.type ((cs.drop f12.offset).take (P.cellsOf f12.type)) = some y12 := by
  obtain ⟨xs, n, _, rfl, hl, hlen, hf⟩ := DataW.trod_struct ht h
  match xs, hlen with
  | [y0, y1, y2, y3, y4, y5, y6, y7, y8, y9, y10, y11, y12], _ => exact ⟨y0, y1, y2, y3, y4, y5, y6, y7, y8, y9, y10, y11, y12, n, by simp, hl, by simpa using hf 0 f0 rfl, by simpa using hf 1 f1 rfl, by simpa using hf 2 f2 rfl, by simpa using hf 3 f3 rfl, by simpa using hf 4 f4 rfl, by simpa using hf 5 f5 rfl, by simpa using hf 6 f6 rfl, by simpa using hf 7 f7 rfl, by simpa using hf 8 f8 rfl, by simpa using hf 9 f9 rfl, by simpa using hf 10 f10 rfl, by simpa using hf 11 f11 rfl, by simpa using hf 12 f12 rfl⟩
theorem trod_struct13_mk {t : TypeId} {f0 f1 f2 f3 f4 f5 f6 f7 f8 f9 f10 f11 f12 : Field} {n : Nat} {cs : List Value} {y0 y1 y2 y3 y4 y5 y6 y7 y8 y9 y10 y11 y12 : DataW H × List MemPlace} (ht : P.underlying t = some (.struct #[f0, f1, f2, f3, f4, f5, f6, f7, f8, f9, f10, f11, f12])) (hl : cs.length = P.cellsOf t)
    (h0 : DataW.trod enc P w base spare held n f0.type ((cs.drop f0.offset).take (P.cellsOf f0.type)) = some y0) (h1 : DataW.trod enc P w base spare held n f1.type ((cs.drop f1.offset).take (P.cellsOf f1.type)) = some y1) (h2 : DataW.trod enc P w base spare held n f2.type ((cs.drop f2.offset).take (P.cellsOf f2.type)) = some y2) (h3 : DataW.trod enc P w base spare held n f3.type ((cs.drop f3.offset).take (P.cellsOf f3.type)) = some y3) (h4 : DataW.trod enc P w base spare held n f4.type ((cs.drop f4.offset).take (P.cellsOf f4.type)) = some y4) (h5 : DataW.trod enc P w base spare held n f5.type ((cs.drop f5.offset).take (P.cellsOf f5.type)) = some y5) (h6 : DataW.trod enc P w base spare held n f6.type ((cs.drop f6.offset).take (P.cellsOf f6.type)) = some y6) (h7 : DataW.trod enc P w base spare held n f7.type ((cs.drop f7.offset).take (P.cellsOf f7.type)) = some y7) (h8 : DataW.trod enc P w base spare held n f8.type ((cs.drop f8.offset).take (P.cellsOf f8.type)) = some y8) (h9 : DataW.trod enc P w base spare held n f9.type ((cs.drop f9.offset).take (P.cellsOf f9.type)) = some y9) (h10 : DataW.trod enc P w base spare held n f10.type ((cs.drop f10.offset).take (P.cellsOf f10.type)) = some y10) (h11 : DataW.trod enc P w base spare held n f11.type ((cs.drop f11.offset).take (P.cellsOf f11.type)) = some y11) (h12 : DataW.trod enc P w base spare held n f12.type ((cs.drop f12.offset).take (P.cellsOf f12.type)) = some y12) :
    DataW.trod enc P w base spare held (n + 1) t cs = some (.agg [y0.1, y1.1, y2.1, y3.1, y4.1, y5.1, y6.1, y7.1, y8.1, y9.1, y10.1, y11.1, y12.1], y0.2 ++ (y1.2 ++ (y2.2 ++ (y3.2 ++ (y4.2 ++ (y5.2 ++ (y6.2 ++ (y7.2 ++ (y8.2 ++ (y9.2 ++ (y10.2 ++ (y11.2 ++ y12.2)))))))))))) := by
  have := trod_struct_mk (enc := enc) (w := w) (base := base) (spare := spare) (held := held) (n := n) (xs := [y0, y1, y2, y3, y4, y5, y6, y7, y8, y9, y10, y11, y12]) ht hl (by simp [h0, h1, h2, h3, h4, h5, h6, h7, h8, h9, h10, h11, h12])
  simpa using this
theorem open_agg13 {r : Reach} {b0 : Nat} {t : TypeId} {f0 f1 f2 f3 f4 f5 f6 f7 f8 f9 f10 f11 f12 : Field} {v : Value} {d : DataW H} {p : List MemPlace} (hs : P.underlying t = some (.struct #[f0, f1, f2, f3, f4, f5, f6, f7, f8, f9, f10, f11, f12])) (hone : oneCellFields P #[f0, f1, f2, f3, f4, f5, f6, f7, f8, f9, f10, f11, f12] = true) (hC : P.cellsOf t = 13)
    (hv : Value.okWide P w r b0 t v) (h : DataW.Trod enc P w base spare held t v d p) :
    ∃ (v0 v1 v2 v3 v4 v5 v6 v7 v8 v9 v10 v11 v12 : Value) (y0 y1 y2 y3 y4 y5 y6 y7 y8 y9 y10 y11 y12 : DataW H × List MemPlace) (n : Nat), v = .agg #[v0, v1, v2, v3, v4, v5, v6, v7, v8, v9, v10, v11, v12] ∧ d = .agg [y0.1, y1.1, y2.1, y3.1, y4.1, y5.1, y6.1, y7.1, y8.1, y9.1, y10.1, y11.1, y12.1] ∧ p = y0.2 ++ (y1.2 ++ (y2.2 ++ (y3.2 ++ (y4.2 ++ (y5.2 ++ (y6.2 ++ (y7.2 ++ (y8.2 ++ (y9.2 ++ (y10.2 ++ (y11.2 ++ y12.2))))))))))) ∧ DataW.trod enc P w base spare held n f0.type [v0] = some y0 ∧ DataW.trod enc P w base spare held n f1.type [v1] = some y1 ∧ DataW.trod enc P w base spare held n f2.type [v2] = some y2 ∧ DataW.trod enc P w base spare held n f3.type [v3] = some y3 ∧ DataW.trod enc P w base spare held n f4.type [v4] = some y4 ∧ DataW.trod enc P w base spare held n f5.type [v5] = some y5 ∧ DataW.trod enc P w base spare held n f6.type [v6] = some y6 ∧ DataW.trod enc P w base spare held n f7.type [v7] = some y7 ∧ DataW.trod enc P w base spare held n f8.type [v8] = some y8 ∧ DataW.trod enc P w base spare held n f9.type [v9] = some y9 ∧ DataW.trod enc P w base spare held n f10.type [v10] = some y10 ∧ DataW.trod enc P w base spare held n f11.type [v11] = some y11 ∧ DataW.trod enc P w base spare held n f12.type [v12] = some y12 := by
  obtain ⟨cs, rfl, hsz⟩ := okWide_struct hs hv
  obtain ⟨c0, c1, c2, c3, c4, c5, c6, c7, c8, c9, c10, c11, c12, rfl⟩ := array13 (hsz.trans hC)
  obtain ⟨fuel, hf⟩ := h
  obtain ⟨y0, y1, y2, y3, y4, y5, y6, y7, y8, y9, y10, y11, y12, n, hx, _, h0, h1, h2, h3, h4, h5, h6, h7, h8, h9, h10, h11, h12⟩ := trod_struct13 hs hf
  obtain ⟨o0, k0⟩ := hone_of hone 0 f0 rfl
  obtain ⟨o1, k1⟩ := hone_of hone 1 f1 rfl
  obtain ⟨o2, k2⟩ := hone_of hone 2 f2 rfl
  obtain ⟨o3, k3⟩ := hone_of hone 3 f3 rfl
  obtain ⟨o4, k4⟩ := hone_of hone 4 f4 rfl
  obtain ⟨o5, k5⟩ := hone_of hone 5 f5 rfl
  obtain ⟨o6, k6⟩ := hone_of hone 6 f6 rfl
  obtain ⟨o7, k7⟩ := hone_of hone 7 f7 rfl
  obtain ⟨o8, k8⟩ := hone_of hone 8 f8 rfl
  obtain ⟨o9, k9⟩ := hone_of hone 9 f9 rfl
  obtain ⟨o10, k10⟩ := hone_of hone 10 f10 rfl
  obtain ⟨o11, k11⟩ := hone_of hone 11 f11 rfl
  obtain ⟨o12, k12⟩ := hone_of hone 12 f12 rfl
  simp only [Prod.mk.injEq] at hx
  exact ⟨c0, c1, c2, c3, c4, c5, c6, c7, c8, c9, c10, c11, c12, y0, y1, y2, y3, y4, y5, y6, y7, y8, y9, y10, y11, y12, n, rfl, hx.1, hx.2, by simpa [Value.cells, o0, k0] using h0, by simpa [Value.cells, o1, k1] using h1, by simpa [Value.cells, o2, k2] using h2, by simpa [Value.cells, o3, k3] using h3, by simpa [Value.cells, o4, k4] using h4, by simpa [Value.cells, o5, k5] using h5, by simpa [Value.cells, o6, k6] using h6, by simpa [Value.cells, o7, k7] using h7, by simpa [Value.cells, o8, k8] using h8, by simpa [Value.cells, o9, k9] using h9, by simpa [Value.cells, o10, k10] using h10, by simpa [Value.cells, o11, k11] using h11, by simpa [Value.cells, o12, k12] using h12⟩
theorem shut_agg13 {t : TypeId} {f0 f1 f2 f3 f4 f5 f6 f7 f8 f9 f10 f11 f12 : Field} {v0 v1 v2 v3 v4 v5 v6 v7 v8 v9 v10 v11 v12 : Value} {y0 y1 y2 y3 y4 y5 y6 y7 y8 y9 y10 y11 y12 : DataW H × List MemPlace} (hs : P.underlying t = some (.struct #[f0, f1, f2, f3, f4, f5, f6, f7, f8, f9, f10, f11, f12])) (hone : oneCellFields P #[f0, f1, f2, f3, f4, f5, f6, f7, f8, f9, f10, f11, f12] = true) (hC : P.cellsOf t = 13)
    (t0 : ∃ n, DataW.trod enc P w base spare held n f0.type [v0] = some y0) (t1 : ∃ n, DataW.trod enc P w base spare held n f1.type [v1] = some y1) (t2 : ∃ n, DataW.trod enc P w base spare held n f2.type [v2] = some y2) (t3 : ∃ n, DataW.trod enc P w base spare held n f3.type [v3] = some y3) (t4 : ∃ n, DataW.trod enc P w base spare held n f4.type [v4] = some y4) (t5 : ∃ n, DataW.trod enc P w base spare held n f5.type [v5] = some y5) (t6 : ∃ n, DataW.trod enc P w base spare held n f6.type [v6] = some y6) (t7 : ∃ n, DataW.trod enc P w base spare held n f7.type [v7] = some y7) (t8 : ∃ n, DataW.trod enc P w base spare held n f8.type [v8] = some y8) (t9 : ∃ n, DataW.trod enc P w base spare held n f9.type [v9] = some y9) (t10 : ∃ n, DataW.trod enc P w base spare held n f10.type [v10] = some y10) (t11 : ∃ n, DataW.trod enc P w base spare held n f11.type [v11] = some y11) (t12 : ∃ n, DataW.trod enc P w base spare held n f12.type [v12] = some y12) :
    DataW.Trod enc P w base spare held t (.agg #[v0, v1, v2, v3, v4, v5, v6, v7, v8, v9, v10, v11, v12]) (.agg [y0.1, y1.1, y2.1, y3.1, y4.1, y5.1, y6.1, y7.1, y8.1, y9.1, y10.1, y11.1, y12.1]) (y0.2 ++ (y1.2 ++ (y2.2 ++ (y3.2 ++ (y4.2 ++ (y5.2 ++ (y6.2 ++ (y7.2 ++ (y8.2 ++ (y9.2 ++ (y10.2 ++ (y11.2 ++ y12.2)))))))))))) := by
  obtain ⟨n0, t0⟩ := t0
  obtain ⟨n1, t1⟩ := t1
  obtain ⟨n2, t2⟩ := t2
  obtain ⟨n3, t3⟩ := t3
  obtain ⟨n4, t4⟩ := t4
  obtain ⟨n5, t5⟩ := t5
  obtain ⟨n6, t6⟩ := t6
  obtain ⟨n7, t7⟩ := t7
  obtain ⟨n8, t8⟩ := t8
  obtain ⟨n9, t9⟩ := t9
  obtain ⟨n10, t10⟩ := t10
  obtain ⟨n11, t11⟩ := t11
  obtain ⟨n12, t12⟩ := t12
  obtain ⟨o0, k0⟩ := hone_of hone 0 f0 rfl
  obtain ⟨o1, k1⟩ := hone_of hone 1 f1 rfl
  obtain ⟨o2, k2⟩ := hone_of hone 2 f2 rfl
  obtain ⟨o3, k3⟩ := hone_of hone 3 f3 rfl
  obtain ⟨o4, k4⟩ := hone_of hone 4 f4 rfl
  obtain ⟨o5, k5⟩ := hone_of hone 5 f5 rfl
  obtain ⟨o6, k6⟩ := hone_of hone 6 f6 rfl
  obtain ⟨o7, k7⟩ := hone_of hone 7 f7 rfl
  obtain ⟨o8, k8⟩ := hone_of hone 8 f8 rfl
  obtain ⟨o9, k9⟩ := hone_of hone 9 f9 rfl
  obtain ⟨o10, k10⟩ := hone_of hone 10 f10 rfl
  obtain ⟨o11, k11⟩ := hone_of hone 11 f11 rfl
  obtain ⟨o12, k12⟩ := hone_of hone 12 f12 rfl
  have ts := trod_struct13_mk (enc := enc) (w := w) (base := base) (spare := spare) (held := held) (n := n0 + n1 + n2 + n3 + n4 + n5 + n6 + n7 + n8 + n9 + n10 + n11 + n12) (cs := [v0, v1, v2, v3, v4, v5, v6, v7, v8, v9, v10, v11, v12]) hs (by simp [hC])
    (by simpa [o0, k0] using DataW.trod_le (show n0 ≤ n0 + n1 + n2 + n3 + n4 + n5 + n6 + n7 + n8 + n9 + n10 + n11 + n12 by omega) t0) (by simpa [o1, k1] using DataW.trod_le (show n1 ≤ n0 + n1 + n2 + n3 + n4 + n5 + n6 + n7 + n8 + n9 + n10 + n11 + n12 by omega) t1) (by simpa [o2, k2] using DataW.trod_le (show n2 ≤ n0 + n1 + n2 + n3 + n4 + n5 + n6 + n7 + n8 + n9 + n10 + n11 + n12 by omega) t2) (by simpa [o3, k3] using DataW.trod_le (show n3 ≤ n0 + n1 + n2 + n3 + n4 + n5 + n6 + n7 + n8 + n9 + n10 + n11 + n12 by omega) t3) (by simpa [o4, k4] using DataW.trod_le (show n4 ≤ n0 + n1 + n2 + n3 + n4 + n5 + n6 + n7 + n8 + n9 + n10 + n11 + n12 by omega) t4) (by simpa [o5, k5] using DataW.trod_le (show n5 ≤ n0 + n1 + n2 + n3 + n4 + n5 + n6 + n7 + n8 + n9 + n10 + n11 + n12 by omega) t5) (by simpa [o6, k6] using DataW.trod_le (show n6 ≤ n0 + n1 + n2 + n3 + n4 + n5 + n6 + n7 + n8 + n9 + n10 + n11 + n12 by omega) t6) (by simpa [o7, k7] using DataW.trod_le (show n7 ≤ n0 + n1 + n2 + n3 + n4 + n5 + n6 + n7 + n8 + n9 + n10 + n11 + n12 by omega) t7) (by simpa [o8, k8] using DataW.trod_le (show n8 ≤ n0 + n1 + n2 + n3 + n4 + n5 + n6 + n7 + n8 + n9 + n10 + n11 + n12 by omega) t8) (by simpa [o9, k9] using DataW.trod_le (show n9 ≤ n0 + n1 + n2 + n3 + n4 + n5 + n6 + n7 + n8 + n9 + n10 + n11 + n12 by omega) t9) (by simpa [o10, k10] using DataW.trod_le (show n10 ≤ n0 + n1 + n2 + n3 + n4 + n5 + n6 + n7 + n8 + n9 + n10 + n11 + n12 by omega) t10) (by simpa [o11, k11] using DataW.trod_le (show n11 ≤ n0 + n1 + n2 + n3 + n4 + n5 + n6 + n7 + n8 + n9 + n10 + n11 + n12 by omega) t11) (by simpa [o12, k12] using DataW.trod_le (show n12 ≤ n0 + n1 + n2 + n3 + n4 + n5 + n6 + n7 + n8 + n9 + n10 + n11 + n12 by omega) t12)
  exact ⟨_, by simpa [Value.cells] using ts⟩
end Go.Proofs.Ytfbcidfbgebbhaa.Agg

