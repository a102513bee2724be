/-
  A slice of pairs among the arguments, opened.
-/
import Derived.Test.YtnghbfegijnolaaB1
import Derived.Deep.SlicePairs
import Derived.ChangeArms
import Derived.OpenShut
namespace Go.Proofs.Ytnghbfegijnolaa.A
set_option linter.unusedVariables false
set_option linter.unusedSimpArgs false
open Go.ChangeShapes Go.WideShapes Go.RowKit Go.Deep Go.Proofs.YtnghbfegijnolaaW.PrintWords
theorem u49_ : ((Try.prog.underlying 49).bind fun u => match u with | .struct fs => some (fs.map (fun f => (f.type, f.offset))) | _ => none) = some #[(23, 0), (9, 1)] := by kernel_rfl
theorem two_fields (u : Option TypeDesc) (hu : (u.bind fun u => match u with | .struct fs => some (fs.map (fun f => (f.type, f.offset))) | _ => none) = some #[(23, 0), (9, 1)]) : ∃ f0 f1 : Field, u = some (.struct #[f0, f1]) ∧ f0.type = 23 ∧ f0.offset = 0 ∧ f1.type = 9 ∧ f1.offset = 1 := by
  cases u with
  | none => cases hu
  | some u =>
    cases u with
    | struct fs =>
      have hfs : fs.map (fun f => (f.type, f.offset)) = #[(23, 0), (9, 1)] := Option.some.inj hu
      clear hu
      obtain ⟨fs⟩ := fs
      have hl := congrArg Array.toList hfs
      clear hfs
      simp only [List.map_toArray] at hl
      rcases fs with _ | ⟨f0, _ | ⟨f1, _ | ⟨f2, fs⟩⟩⟩
      · simp at hl
      · simp at hl
      · simp only [List.map_cons, List.map_nil, List.cons.injEq, Prod.mk.injEq] at hl
        exact ⟨f0, f1, rfl, hl.1.1, hl.1.2, hl.2.1.1, hl.2.1.2⟩
      · simp at hl
    | _ => cases hu
theorem u49 : ∃ f0 f1 : Field, Try.prog.underlying 49 = some (.struct #[f0, f1]) ∧ f0.type = 23 ∧ f0.offset = 0 ∧ f1.type = 9 ∧ f1.offset = 1 := two_fields _ u49_
theorem pairs_opened {H : Type} {enc : TypeId × Value → H} {W : World} {a : Option Addr} {len cap : Nat} {d : DataW H} {ps : List MemPlace}
    (h : DataW.Trod enc Try.prog W 0 (fun _ => true) true 22 (.slice a len cap) d ps) :
    ∃ l : List (Int × ByteArray), l.length = len ∧ (Kd.pair (Kd.int .u64) Kd.string).C W a len l ∧ ∀ i, i < l.length → (Lit.int .u64 (l.getD i (0, ⟨#[]⟩)).1).wf = true ∧ (l.getD i (0, ⟨#[]⟩)).2.size ≤ maxLen := by
  obtain ⟨fuel, hf⟩ := h
  obtain ⟨f0, f1, hs, t0, o0, t1, o1⟩ := u49
  rcases open_slice_pairs Try.underlying22 hs (by kernel_rfl) o0 o1 (by rw [t0]; kernel_rfl) (by rw [t1]; kernel_rfl) hf with ⟨hcs, _⟩ | ⟨x, l, c, m, n, V0, V1, D0, D1, P0, P1, hcs, _, hl, hm, hmm, hx, hel⟩
  · simp [Value.cells] at hcs
    obtain ⟨rfl, rfl, rfl⟩ := hcs
    exact ⟨[], rfl, ⟨rfl, Nat.zero_le _, fun h => absurd h (Nat.lt_irrefl 0)⟩, fun i hi => absurd hi (Nat.not_lt_zero i)⟩
  · simp [Value.cells] at hcs
    obtain ⟨rfl, rfl, rfl⟩ := hcs
    simp only [if_true] at hmm
    have each : ∀ i, i < len → ∃ q : Int × ByteArray, W.cell? (x.add (i * 2)) = some (.int .u64 q.1) ∧ W.cell? (x.add (i * 2 + 1)) = some (.string q.2) ∧ (Lit.int .u64 q.1).wf = true ∧ q.2.size ≤ maxLen := by
      intro i hi
      obtain ⟨h1, h2, h3, h4⟩ := hel i (by omega)
      rw [t0] at h3
      rw [t1] at h4
      obtain ⟨k, e1, _, e2⟩ := DataW.trod_int Try.underlying23 h3
      obtain ⟨s, e3, _, e4⟩ := DataW.trod_string Try.underlying9 h4
      rw [List.singleton_inj] at e1 e3
      exact ⟨(k, s), by rw [h1, e1], by rw [h2, e3], e2, e4⟩
    obtain ⟨q, hq⟩ := choose_lt each
    have hgo : ∀ i, i < len → ((List.range len).map q)[i]? = some (q i) := fun i hi => by simp [hi]
    refine ⟨(List.range len).map q, by simp, ⟨by simp, Nat.le_trans hl (Nat.le_trans hm (by decide)), fun _ => ⟨x, rfl, fun j p hj => ?_⟩⟩, fun i hi => ?_⟩
    · have hjl : j < len := by
        have := (List.getElem?_eq_some_iff.1 hj).1
        simpa using this
      rw [hgo j hjl] at hj
      obtain rfl := Option.some.inj hj
      obtain ⟨h1, h2, _, _⟩ := hq j hjl
      refine ⟨[.int .u64 (q j).1, .string (q j).2], rfl, ⟨_, _, rfl, rfl, rfl⟩, fun i u hu => ?_⟩
      match i, hu with
      | 0, hu =>
        obtain rfl := Option.some.inj hu
        exact h1
      | 1, hu =>
        obtain rfl := Option.some.inj hu
        exact h2
      | i + 2, hu => simp at hu
    · have hil : i < len := by simpa using hi
      rw [List.getD_eq_getElem?_getD, hgo i hil]
      exact ⟨(hq i hil).2.2.1, (hq i hil).2.2.2⟩
end Go.Proofs.Ytnghbfegijnolaa.A
