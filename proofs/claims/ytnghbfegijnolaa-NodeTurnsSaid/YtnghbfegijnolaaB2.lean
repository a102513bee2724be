/-
  Nodes, plainly: the place in rising keys, and what Put, Without, Hang and Unhang make of a node.
  A slice of pairs among the arguments, opened.
-/
import Derived.Test.YtnghbfegijnolaaA8
import Derived.Deep.SlicePairs
import Derived.ChangeArms
import Derived.OpenShut
namespace Go.Proofs.Ytnghbfegijnolaa.A
set_option linter.unusedVariables false
set_option linter.unusedSimpArgs false
def Rise (l : List Int) : Prop := l.Pairwise (· < ·)
theorem rise_lt {l : List Int} (h : Rise l) {i j : Nat} (hij : i < j) (hj : j < l.length) : l.getD i 0 < l.getD j 0 := by
  have hi : i < l.length := by omega
  have := (List.pairwise_iff_getElem.1 h) i j hi hj hij
  simpa [List.getD_eq_getElem?_getD, List.getElem?_eq_getElem hi, List.getElem?_eq_getElem hj] using this
theorem placeF_spec {l : List Int} (h : Rise l) (key : Int) : ∀ k a b, b ≤ a + k → a ≤ b → b ≤ l.length → (∀ i, i < a → l.getD i 0 < key) → (∀ i, b ≤ i → i < l.length → key ≤ l.getD i 0) →
    placeF l key k a b ≤ l.length ∧ (∀ i, i < placeF l key k a b → l.getD i 0 < key) ∧ (∀ i, placeF l key k a b ≤ i → i < l.length → key ≤ l.getD i 0)
  | 0, a, b, h1, h2, h3, h4, h5 => by
    have e : b = a := by omega
    subst e
    exact ⟨h3, h4, h5⟩
  | k + 1, a, b, h1, h2, h3, h4, h5 => by
    by_cases hab : a < b
    · rw [placeF_step l key k a b hab]
      have hm : (a + b) / 2 < l.length := by omega
      by_cases e1 : l.getD ((a + b) / 2) 0 = key
      · rw [if_pos e1]
        refine ⟨by omega, fun i hi => by have := rise_lt h hi hm; omega, fun i hi hl => ?_⟩
        rcases Nat.eq_or_lt_of_le hi with e | e
        · rw [← e]; omega
        · have := rise_lt h e hl; omega
      · rw [if_neg e1]
        by_cases e2 : l.getD ((a + b) / 2) 0 < key
        · rw [if_pos e2]
          refine placeF_spec h key k _ b (by omega) (by omega) h3 (fun i hi => ?_) h5
          rcases Nat.eq_or_lt_of_le (Nat.le_of_lt_succ hi) with e | e
          · rw [e]; exact e2
          · have := rise_lt h e hm; omega
        · rw [if_neg e2]
          refine placeF_spec h key k a _ (by omega) (by omega) (by omega) h4 (fun i hi hl => ?_)
          rcases Nat.eq_or_lt_of_le hi with e | e
          · rw [← e]; omega
          · have := rise_lt h e hl; omega
    · rw [placeF_end l key _ a b hab]
      exact ⟨by omega, h4, fun i hi => h5 i (by omega)⟩
theorem place_spec {l : List Int} (h : Rise l) (key : Int) : place l key ≤ l.length ∧ (∀ i, i < place l key → l.getD i 0 < key) ∧ (∀ i, place l key ≤ i → i < l.length → key ≤ l.getD i 0) :=
  placeF_spec h key l.length 0 l.length (by omega) (by omega) (Nat.le_refl _) (fun i hi => absurd hi (Nat.not_lt_zero i)) (fun i hi hl => absurd hl (by omega))
theorem getD_of {l : List Int} {i : Nat} (h : i < l.length) : l.getD i 0 = l[i] := by
  simp [List.getD_eq_getElem?_getD, List.getElem?_eq_getElem h]
theorem take_low {l : List Int} (h : Rise l) (key : Int) : ∀ x ∈ l.take (place l key), x < key := by
  intro x hx
  obtain ⟨j, hj, rfl⟩ := List.mem_take_iff_getElem.1 hx
  have := (place_spec h key).2.1 j (by omega)
  rwa [getD_of (by omega)] at this
theorem drop_high {l : List Int} (h : Rise l) (key : Int) : ∀ x ∈ l.drop (place l key), key ≤ x := by
  intro x hx
  obtain ⟨j, hj, rfl⟩ := List.mem_drop_iff_getElem.1 hx
  have := (place_spec h key).2.2 (place l key + j) (by omega) (by omega)
  rwa [getD_of (by omega)] at this
theorem isAt_mem {l : List Int} (h : Rise l) (key : Int) : isAt l key = true ↔ key ∈ l := by
  unfold isAt
  rw [Bool.and_eq_true, decide_eq_true_eq, beq_iff_eq]
  constructor
  · rintro ⟨h1, h2⟩
    rw [getD_of h1] at h2
    rw [← h2]
    exact List.getElem_mem h1
  · intro hm
    obtain ⟨j, hj, e⟩ := List.getElem_of_mem hm
    have e2 : l.getD j 0 = key := by rw [getD_of hj]; exact e
    have h1 : ¬ j < place l key := fun hlt => by have := (place_spec h key).2.1 j hlt; omega
    have hlt : place l key < l.length := by omega
    have h3 := (place_spec h key).2.2 (place l key) (Nat.le_refl _) hlt
    refine ⟨hlt, ?_⟩
    rcases Nat.eq_or_lt_of_le (Nat.le_of_not_lt h1) with e3 | e3
    · rw [e3]; exact e2
    · have := rise_lt h e3 hj; omega
theorem isAt_get {l : List Int} {key : Int} (h : isAt l key = true) : place l key < l.length ∧ l.getD (place l key) 0 = key := by
  unfold isAt at h
  rw [Bool.and_eq_true, decide_eq_true_eq, beq_iff_eq] at h
  exact h
theorem rise_lay {l : List Int} (h : Rise l) (key : Int) : Rise (laidF l [key] (place l key) (goneF (isAt l key))) := by
  unfold laidF Rise
  have h0 : (l.take (place l key) ++ l.drop (place l key)).Pairwise (· < ·) := by rw [List.take_append_drop]; exact h
  rw [List.pairwise_append] at h0
  obtain ⟨p1, p2, p3⟩ := h0
  have hs : (l.drop (place l key + goneF (isAt l key))).Sublist (l.drop (place l key)) := by
    rw [← List.drop_drop]; exact List.drop_sublist _ _
  have hlow := take_low h key
  have hgt : ∀ x ∈ l.drop (place l key + goneF (isAt l key)), key < x := by
    intro x hx
    have h1 := drop_high h key x (hs.mem hx)
    rcases Int.lt_or_eq_of_le h1 with e | e
    · exact e
    · exfalso
      subst e
      have hmem : key ∈ l := (List.drop_sublist _ _).mem hx
      rw [(isAt_mem h key).2 hmem] at hx
      obtain ⟨j, hj, e2⟩ := List.mem_drop_iff_getElem.1 hx
      have hg := isAt_get ((isAt_mem h key).2 hmem)
      have := rise_lt h (i := place l key) (j := place l key + goneF true + j) (by simp [goneF]; omega) (by simp only [goneF] at hj ⊢; omega)
      rw [getD_of (l := l) (i := place l key + goneF true + j) (by simp only [goneF] at hj ⊢; omega), e2] at this
      omega
  rw [List.append_assoc, List.pairwise_append]
  refine ⟨p1, ?_, ?_⟩
  · rw [List.singleton_append, List.pairwise_cons]
    exact ⟨fun x hx => hgt x hx, p2.sublist hs⟩
  · intro a ha b hb
    rw [List.singleton_append, List.mem_cons] at hb
    rcases hb with rfl | hb
    · exact hlow a ha
    · exact p3 a ha b (hs.mem hb)
theorem laidF_size {α : Type} (l more : List α) (a g : Nat) (h : a + g ≤ l.length) : (laidF l more a g).length + g = l.length + more.length := by
  simp only [laidF, List.length_append, List.length_take, List.length_drop]
  omega
/-- A leaf as Put makes it. -/
structure LeafOk (x : Nd) (n : Nat) : Prop where
  leaf : x.leaf = true
  kids : x.kids = []
  same : x.vals.length = x.keys.length
  rise : Rise x.keys
  few : x.keys.length ≤ n
  small : ∀ v ∈ x.vals, v.size ≤ 40
theorem LeafOk.place {x : Nd} {n : Nat} (h : LeafOk x n) (key : Int) : A.place x.keys key + goneF (isAt x.keys key) ≤ x.keys.length := by
  have h1 := (place_spec h.rise key).1
  cases e : isAt x.keys key with
  | true => have := (isAt_get e).1; simp only [goneF, if_true]; omega
  | false => simp [goneF]; exact h1
theorem LeafOk.put {x : Nd} {n : Nat} (h : LeafOk x n) (key : Int) (v : ByteArray) (hv : v.size ≤ 40) : LeafOk (putF x key v) (n + 1) := by
  have hp := h.place key
  have e1 := laidF_size x.keys [key] (A.place x.keys key) (goneF (isAt x.keys key)) hp
  have e2 := laidF_size x.vals [v] (A.place x.keys key) (goneF (isAt x.keys key)) (by rw [h.same]; exact hp)
  simp only [List.length_singleton] at e1 e2
  have hsame := h.same
  have hfew := h.few
  rw [putF, if_pos h.leaf]
  refine ⟨rfl, rfl, ?_, rise_lay h.rise key, ?_, ?_⟩
  · show (laidF _ _ _ _).length = (laidF _ _ _ _).length
    omega
  · show (laidF _ _ _ _).length ≤ _
    omega
  · intro u hu
    have hu' : u ∈ x.vals.take (A.place x.keys key) ++ [v] ++ x.vals.drop (A.place x.keys key + goneF (isAt x.keys key)) := hu
    rw [List.mem_append, List.mem_append, List.mem_singleton] at hu'
    rcases hu' with (hu' | rfl) | hu'
    · exact h.small u ((List.take_sublist _ _).mem hu')
    · exact hv
    · exact h.small u ((List.drop_sublist _ _).mem hu')
theorem cut40_le (s : ByteArray) : (cut40 s).size ≤ 40 := by
  unfold cut40
  rw [ByteArray.size_extract]
  omega
theorem LeafOk.more {x : Nd} {n m : Nat} (h : LeafOk x n) (hm : n ≤ m) : LeafOk x m := ⟨h.leaf, h.kids, h.same, h.rise, Nat.le_trans h.few hm, h.small⟩
theorem sumS_small : ∀ (l : List ByteArray), (∀ v ∈ l, v.size ≤ 40) → sumS l ≤ 40 * l.length
  | [], _ => by simp [sumS]
  | s :: l, h => by
    have h1 := sumS_small l (fun v hv => h v (List.mem_cons_of_mem _ hv))
    have h2 := h s (List.mem_cons_self ..)
    simp only [sumS, List.length_cons]
    omega
theorem LeafOk.sum {x : Nd} {n : Nat} (h : LeafOk x n) : sumS x.vals ≤ 40 * n := by
  have h1 := sumS_small x.vals h.small
  have h2 := h.same
  have h3 := h.few
  have : ((x.vals.length : Nat) : Int) ≤ n := by omega
  omega
/-- A branch as Hang makes it. -/
structure BranchOk (x : Nd) (n : Nat) : Prop where
  leaf : x.leaf = false
  vals : x.vals = []
  kids : x.kids.length = x.keys.length + 1
  rise : Rise x.keys
  few : x.keys.length ≤ n
theorem BranchOk.more {x : Nd} {n m : Nat} (h : BranchOk x n) (hm : n ≤ m) : BranchOk x m := ⟨h.leaf, h.vals, h.kids, h.rise, Nat.le_trans h.few hm⟩
theorem LeafOk.size {x : Nd} {n : Nat} (h : LeafOk x n) : 0 ≤ sizeF x ∧ sizeF x ≤ 1 + 49 * n := by
  have h1 := h.sum
  have h2 := sumS_nonneg x.vals
  have h3 := h.few
  unfold sizeF
  rw [if_pos h.leaf]
  omega
end Go.Proofs.Ytnghbfegijnolaa.A
namespace Go.Proofs.Ytnghbfegijnolaa.A
set_option linter.unusedVariables false
set_option linter.unusedSimpArgs false
open Go.ChangeShapes Go.WideShapes Go.RowKit Go.Deep Go.Proofs.YtnghbfegijnolaaW.PrintWords
end Go.Proofs.Ytnghbfegijnolaa.A
