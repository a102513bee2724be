/-
  A slice of texts among the arguments, opened with the sizes of its texts.
-/
import Derived.Test.YtnffhdlkkfphbaaDh
import Derived.SliceStrings
import Derived.SizedLaws
namespace Go.Proofs.Ytnffhdlkkfphbaa.D
set_option linter.unusedVariables false
set_option linter.unusedSimpArgs false
open Go.ChangeShapes Go.WideShapes Go.RowKit
theorem weightsAll_strs {H : Type} {P : Program} {e : TypeId} : ∀ (ss : List ByteArray) (s : ByteArray), s ∈ ss → s.size ∈ DataW.weightsAll (H := H) P e (strs ss)
  | [], s, h => absurd h List.not_mem_nil
  | x :: r, s, h => by
    show s.size ∈ DataW.weightsAll P e (DataW.lit (Lit.string x.data.toList) :: strs r)
    rw [DataW.weightsAll, List.mem_append, DataW.weights]
    rcases List.mem_cons.1 h with rfl | h1
    · left
      rw [List.mem_singleton]
      show s.data.size = s.data.toList.length
      rw [Array.length_toList]
    · right
      exact weightsAll_strs r s h1
theorem strs_opened {H : Type} {enc : TypeId × Value → H} {P : Program} {W : World} {t e : TypeId} {a : Option Addr} {len cap : Nat} {d : DataW H} {ps : List MemPlace} {ts : List TypeId} {ds : List (DataW H)} {j : Nat}
    (hsz : (DataW.weightsEach P ts ds).all (· ≤ reachBytes) = true) (ht : ts[j]? = some t) (hd : ds[j]? = some d) (hu : P.underlying t = some (.slice e)) (he : P.underlying e = some .string) (hc : P.cellsOf e = 1)
    (h : DataW.Trod enc P W 0 (fun _ => true) true t (.slice a len cap) d ps) : ∃ zs, IsStrs W a len cap zs ∧ ∀ s ∈ zs.take len, s.size ≤ 140737488351232 := by
  obtain ⟨fuel, hf⟩ := h
  rcases open_strings hu he hc hf with ⟨hcs, _⟩ | ⟨x, l, c, zs, hcs, _, hl, hm, hz, hx, hcell, hwz⟩
  · simp [Value.cells] at hcs
    obtain ⟨rfl, rfl, rfl⟩ := hcs
    exact ⟨[], .inl ⟨rfl, rfl, rfl, rfl⟩, fun s hs => absurd hs List.not_mem_nil⟩
  · simp [Value.cells] at hcs
    obtain ⟨rfl, rfl, rfl⟩ := hcs
    refine ⟨zs, .inr ⟨_, rfl, hl, hm, by simpa using hz, hcell, hwz⟩, fun s hs => ?_⟩
    obtain ⟨hx, _⟩ := Prod.mk.inj hx
    subst hx
    have := List.all_eq_true.1 hsz s.size (DataW.weights_mem_each ht hd s.size (by
      rw [DataW.weights, hu]
      dsimp only
      exact List.mem_cons_of_mem _ (List.mem_append.2 (.inl (weightsAll_strs _ s hs)))))
    exact of_decide_eq_true this
end Go.Proofs.Ytnffhdlkkfphbaa.D
