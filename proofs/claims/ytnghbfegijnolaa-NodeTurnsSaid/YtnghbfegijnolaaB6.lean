/-
  A node among the arguments, opened.
-/
import Derived.Test.YtnghbfegijnolaaB2
import Derived.Lib.SmallJoins
import Derived.Deep.Slices
import Derived.ChangeSlices
namespace Go.Proofs.Ytnghbfegijnolaa.A
set_option linter.unusedVariables false
set_option linter.unusedSimpArgs false
open Go.ChangeShapes Go.WideShapes Go.RowKit Go.Deep Go.Joins Go.Proofs.YtnghbfegijnolaaW.PrintWords
theorem row_opened {α H : Type} {enc : TypeId × Value → H} (en : α → Value) {h1 : ∀ x, (en x).oneCell' = true} (d0 : α) {W : World} {t e : TypeId} {fuel : Nat} {c : Value} {y : DataW H × List MemPlace} (ht : Try.prog.underlying t = some (.slice e)) (hc : Try.prog.cellsOf e = 1)
    (h : DataW.trod enc Try.prog W 0 (fun _ => true) true fuel t [c] = some y)
    (he : ∀ n v z, DataW.trod enc Try.prog W 0 (fun _ => true) true n e [v] = some z → ∃ a : α, v = en a) :
    ∃ A l cap, c = .slice A l.length cap ∧ l.length ≤ cap ∧ (Kd.scalar en h1).C W A l.length l := by
  rcases open_slice1 ht hc h with ⟨hcs, _⟩ | ⟨x, len, cap, m, n, V, D, Pl, hcs, _, hl, hm, hmm, _, hel⟩
  · obtain rfl : c = .slice none 0 0 := List.singleton_inj.1 hcs
    exact ⟨none, [], 0, rfl, Nat.le_refl _, ⟨rfl, Nat.zero_le _, fun h => absurd h (Nat.lt_irrefl 0)⟩⟩
  · obtain rfl : c = .slice (some x) len cap := List.singleton_inj.1 hcs
    simp only [if_true] at hmm
    have each : ∀ i, i < len → ∃ q : α, W.cell? (x.add i) = some (en q) := by
      intro i hi
      obtain ⟨g1, g2⟩ := hel i (by omega)
      obtain ⟨a, ha⟩ := he n _ _ g2
      exact ⟨a, by rw [g1, ha]⟩
    have each2 : ∀ i, i < len → ∃ q : α, W.cell? (x.add i) = some (en q) ∧ True := fun i hi => by obtain ⟨q, hq⟩ := each i hi; exact ⟨q, hq, trivial⟩
    obtain ⟨q, hq⟩ : ∃ q : Nat → α, ∀ i, i < len → W.cell? (x.add i) = some (en (q i)) := by
      refine ⟨fun i => if hi : i < len then Classical.choose (each i hi) else d0, fun i hi => ?_⟩
      simp only [dif_pos hi]
      exact Classical.choose_spec (each i hi)
    have hgo : ∀ i, i < len → ((List.range len).map q)[i]? = some (q i) := fun i hi => by simp [hi]
    refine ⟨some x, (List.range len).map q, cap, by simp, by simpa using hl, ⟨by simp, by simp only [List.length_map, List.length_range]; exact Nat.le_trans hl (Nat.le_trans hm (by decide)), fun _ => ⟨x, rfl, fun j p hj => ?_⟩⟩⟩
    have hjl : j < len := by
      have := (List.getElem?_eq_some_iff.1 hj).1
      simpa using this
    rw [hgo j hjl] at hj
    obtain rfl := Option.some.inj hj
    refine ⟨[en (q j)], rfl, rfl, fun i u hu => ?_⟩
    match i, hu with
    | 0, hu =>
      obtain rfl := Option.some.inj hu
      have := hq j hjl
      simpa [Kd.scalar] using this
    | i + 1, hu => simp at hu
theorem cells29 : Try.prog.cellsOf 29 = 4 := by kernel_rfl
set_option maxRecDepth 100000 in
theorem node_opened {H : Type} {enc : TypeId × Value → H} {W : World} {r : Reach} {base : Nat} {v : Value} {d : DataW H} {ps : List MemPlace} (hv : Value.okWide Try.prog W r base 29 v)
    (h : DataW.Trod enc Try.prog W 0 (fun _ => true) true 29 v d ps) : ∃ x : Nd, At W v x := by
  obtain ⟨c0, c1, c2, c3, y0, y1, y2, y3, m, rfl, rfl, rfl, g0, g1, g2, g3⟩ := open_agg4 Try.underlying29 (by kernel_rfl) cells29 hv h
  obtain ⟨b, e0, _⟩ := DataW.trod_bool Try.underlying4 g0
  obtain rfl : c0 = .bool b := List.singleton_inj.1 e0
  obtain ⟨A1, l1, k1, rfl, z1, r1⟩ := row_opened (Value.int .u64) (h1 := fun _ => rfl) 0 Try.underlying25 (by kernel_rfl) g1 (fun n v z hz => by obtain ⟨a, e, _⟩ := DataW.trod_int Try.underlying23 hz; exact ⟨a, List.singleton_inj.1 e⟩)
  obtain ⟨A2, l2, k2, rfl, z2, r2⟩ := row_opened Value.string (h1 := fun _ => rfl) ⟨#[]⟩ Try.underlying26 (by kernel_rfl) g2 (fun n v z hz => by obtain ⟨a, e, _⟩ := DataW.trod_string Try.underlying9 hz; exact ⟨a, List.singleton_inj.1 e⟩)
  obtain ⟨A3, l3, k3, rfl, z3, r3⟩ := row_opened (Value.int .i64) (h1 := fun _ => rfl) 0 Try.underlying27 (by kernel_rfl) g3 (fun n v z hz => by obtain ⟨a, e, _⟩ := DataW.trod_int Try.underlying3 hz; exact ⟨a, List.singleton_inj.1 e⟩)
  exact ⟨⟨b, l1, l2, l3⟩, At.mk_ (x := ⟨b, l1, l2, l3⟩) r1 z1 r2 z2 r3 z3⟩
end Go.Proofs.Ytnghbfegijnolaa.A
