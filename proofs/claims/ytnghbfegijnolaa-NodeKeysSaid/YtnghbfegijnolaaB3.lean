/-
  Nodes, plainly: what Hang and Unhang make of a branch.
-/
import Derived.Test.YtnghbfegijnolaaB2
namespace Go.Proofs.Ytnghbfegijnolaa.A
set_option linter.unusedVariables false
set_option linter.unusedSimpArgs false
theorem laid_back {α : Type} (l : List α) (k : α) (a : Nat) (h : a ≤ l.length) : laidF (laidF l [k] a 0) [] a 1 = l := by
  have hl : (l.take a).length = a := by rw [List.length_take]; omega
  unfold laidF
  rw [List.append_nil, Nat.add_zero, List.append_assoc (l.take a), List.take_left' hl, ← List.append_assoc, List.drop_left' (by rw [List.length_append, hl]; rfl), List.take_append_drop]
theorem laid_lt {α : Type} (l more : List α) (d : α) (a g i : Nat) (h : a ≤ l.length) (hi : i < a) : (laidF l more a g).getD i d = l.getD i d := by
  have hl : (l.take a).length = a := by rw [List.length_take]; omega
  simp only [laidF, List.getD_eq_getElem?_getD]
  rw [List.append_assoc, List.getElem?_append_left (by omega), List.getElem?_take, if_pos hi]
theorem laid_eq {α : Type} (l : List α) (k d : α) (a g : Nat) (h : a ≤ l.length) : (laidF l [k] a g).getD a d = k := by
  have hl : (l.take a).length = a := by rw [List.length_take]; omega
  simp only [laidF, List.getD_eq_getElem?_getD]
  rw [List.append_assoc, List.getElem?_append_right (by omega), hl, Nat.sub_self]
  rfl
theorem laid_gt {α : Type} (l : List α) (k d : α) (a i : Nat) (h : a ≤ l.length) (hi : a ≤ i) : (laidF l [k] a 0).getD (i + 1) d = l.getD i d := by
  have hl : (l.take a ++ [k]).length = a + 1 := by rw [List.length_append, List.length_take, List.length_singleton]; omega
  simp only [laidF, List.getD_eq_getElem?_getD]
  rw [List.getElem?_append_right (by omega), hl, List.getElem?_drop, show a + 0 + (i + 1 - (a + 1)) = i by omega]
theorem ups_mono (l : List Int) {k k' : Int} (h : k ≤ k') : ups l k ≤ ups l k' :=
  List.countP_mono_left (fun x _ hx => by simp only [decide_eq_true_eq] at hx ⊢; omega)
theorem ups_strict {k k' : Int} (h : k < k') : ∀ l : List Int, k' ∈ l → ups l k < ups l k'
  | [], hm => by cases hm
  | y :: l, hm => by
    have h1 := ups_mono l (Int.le_of_lt h)
    unfold ups at h1 ⊢
    rw [List.countP_cons, List.countP_cons]
    rcases List.mem_cons.1 hm with e | e
    · subst e
      rw [if_neg (by simp; omega), if_pos (by simp)]
      omega
    · have h2 := ups_strict h l e
      unfold ups at h2
      by_cases hy : y ≤ k
      · rw [if_pos (by simpa using hy), if_pos (by simp; omega)]; omega
      · rw [if_neg (by simpa using hy)]; omega
theorem ups_laid (l : List Int) (key k : Int) (a : Nat) : ups (laidF l [key] a 0) k = ups l k + (if key ≤ k then 1 else 0) := by
  have e : ups l k = ups (l.take a) k + ups (l.drop a) k := by unfold ups; rw [← List.countP_append, List.take_append_drop]
  rw [e]
  unfold ups laidF
  rw [List.countP_append, List.countP_append, List.countP_singleton, Nat.add_zero]
  simp only [decide_eq_true_eq]
  omega
theorem ups_le (l : List Int) (k : Int) : ups l k ≤ l.length := List.countP_le_length
/-- What Hang makes of a branch at its key's place. -/
structure Hung (b m : Nd) (key : Int) (p : Nat) (kid : Int) : Prop where
  k0 : m.leaf = false
  k1 : m.keys.length = b.keys.length + 1
  k2 : m.kids.length = b.kids.length + 1
  k3 : m.vals = []
  k4 : atF m key = p + 1
  k5 : unhangF m (p : Int) = b
  k6 : m.kids.getD (p + 1) 0 = kid
  k7 : ∀ k, k < b.keys.length → atF b (b.keys.getD k 0) < b.kids.length ∧ atF m (b.keys.getD k 0) < m.kids.length ∧ b.kids.getD (atF b (b.keys.getD k 0)) 0 = m.kids.getD (atF m (b.keys.getD k 0)) 0
theorem hung {b : Nd} {n : Nat} (h : BranchOk b n) {key : Int} (hm : key ∉ b.keys) (kid : Int) : Hung b (hangF b (atF b key : Nat) key kid) key (atF b key) kid := by
  have hl := at_le b key
  have hk := h.kids
  have h' := h.hang hm kid
  have em : hangF b (atF b key : Nat) key kid = ⟨false, laidF b.keys [key] (atF b key) 0, [], laidF b.kids [kid] (atF b key + 1) 0⟩ := by rw [hangF, if_pos ⟨h.leaf, by omega, by omega⟩, Int.toNat_natCast]
  rw [em] at h' ⊢
  have e1 := laidF_size b.keys [key] (atF b key) 0 (by omega)
  have e2 := laidF_size b.kids [kid] (atF b key + 1) 0 (by omega)
  simp only [List.length_singleton] at e1 e2
  have hr' : Rise (laidF b.keys [key] (atF b key) 0) := h'.rise
  have au : ∀ k, atF ⟨false, laidF b.keys [key] (atF b key) 0, [], laidF b.kids [kid] (atF b key + 1) 0⟩ k = ups b.keys k + (if key ≤ k then 1 else 0) := fun k => by
    rw [atF_ups _ hr', ← ups_laid b.keys key k (atF b key)]
  refine ⟨rfl, by show (laidF _ _ _ _).length = _; omega, by show (laidF _ _ _ _).length = _; omega, rfl, ?_, ?_, ?_, ?_⟩
  · rw [au, if_pos (Int.le_refl _), atF_ups b h.rise]
  · rw [unhangF, if_pos ⟨rfl, by omega, by show ((atF b key : Nat) : Int) < ((laidF _ _ _ _).length : Nat); omega⟩, Int.toNat_natCast]
    show Nd.mk false (laidF (laidF b.keys [key] (atF b key) 0) [] (atF b key) 1) [] (laidF (laidF b.kids [kid] (atF b key + 1) 0) [] (atF b key + 1) 1) = b
    rw [laid_back _ _ _ (by omega), laid_back _ _ _ (by omega), ← h.leaf, ← h.vals]
  · exact laid_eq _ _ _ _ _ (by omega)
  · intro k hkl
    have hmem : b.keys.getD k 0 ∈ b.keys := by rw [getD_of hkl]; exact List.getElem_mem _
    generalize b.keys.getD k 0 = kk at *
    have hne : kk ≠ key := fun e => hm (e ▸ hmem)
    have hu := ups_le b.keys kk
    rw [au, atF_ups b h.rise kk]
    refine ⟨by omega, ?_, ?_⟩
    · show _ < (laidF _ _ _ _).length
      split <;> omega
    · show _ = (laidF _ _ _ _).getD _ _
      rw [atF_ups b h.rise key] at hl ⊢
      by_cases hlt : key ≤ kk
      · rw [if_pos hlt]
        have := ups_strict (show key < kk by omega) b.keys hmem
        rw [laid_gt _ _ _ _ _ (by omega) (by omega)]
      · rw [if_neg hlt]
        have := ups_mono b.keys (show kk ≤ key by omega)
        rw [laid_lt _ _ _ _ _ _ (by omega) (by omega), Nat.add_zero]
end Go.Proofs.Ytnghbfegijnolaa.A
