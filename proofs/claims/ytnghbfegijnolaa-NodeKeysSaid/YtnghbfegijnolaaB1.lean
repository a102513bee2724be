/-
  Nodes, plainly: the place in rising keys, and what Put, Without, Hang and Unhang make of a node.
-/
import Derived.Test.YtnghbfegijnolaaA8
namespace Go.Proofs.Ytnghbfegijnolaa.A
set_option linter.unusedVariables false
set_option linter.unusedSimpArgs false
def Rise (l : List Int) : Prop := l.Pairwise (· < ·)
def lows (l : List Int) (k : Int) : Nat := l.countP (fun x => decide (x < k))
def ups (l : List Int) (k : Int) : Nat := l.countP (fun x => decide (x ≤ k))
theorem rise_lt {l : List Int} (h : Rise l) {i j : Nat} (hij : i < j) (hj : j < l.length) : l.getD i 0 < l.getD j 0 := by
  have hi : i < l.length := by omega
  have := (List.pairwise_iff_getElem.1 h) i j hi hj hij
  simpa [List.getD_eq_getElem?_getD, List.getElem?_eq_getElem hi, List.getElem?_eq_getElem hj] using this
theorem placeF_spec {l : List Int} (h : Rise l) (key : Int) : ∀ k a b, b ≤ a + k → a ≤ b → b ≤ l.length → (∀ i, i < a → l.getD i 0 < key) → (∀ i, b ≤ i → i < l.length → key ≤ l.getD i 0) →
    placeF l key k a b ≤ l.length ∧ (∀ i, i < placeF l key k a b → l.getD i 0 < key) ∧ (∀ i, placeF l key k a b ≤ i → i < l.length → key ≤ l.getD i 0)
  | 0, a, b, h1, h2, h3, h4, h5 => by
    have e : b = a := by omega
    subst e
    exact ⟨h3, h4, h5⟩
  | k + 1, a, b, h1, h2, h3, h4, h5 => by
    by_cases hab : a < b
    · rw [placeF_step l key k a b hab]
      have hm : (a + b) / 2 < l.length := by omega
      by_cases e1 : l.getD ((a + b) / 2) 0 = key
      · rw [if_pos e1]
        refine ⟨by omega, fun i hi => by have := rise_lt h hi hm; omega, fun i hi hl => ?_⟩
        rcases Nat.eq_or_lt_of_le hi with e | e
        · rw [← e]; omega
        · have := rise_lt h e hl; omega
      · rw [if_neg e1]
        by_cases e2 : l.getD ((a + b) / 2) 0 < key
        · rw [if_pos e2]
          refine placeF_spec h key k _ b (by omega) (by omega) h3 (fun i hi => ?_) h5
          rcases Nat.eq_or_lt_of_le (Nat.le_of_lt_succ hi) with e | e
          · rw [e]; exact e2
          · have := rise_lt h e hm; omega
        · rw [if_neg e2]
          refine placeF_spec h key k a _ (by omega) (by omega) (by omega) h4 (fun i hi hl => ?_)
          rcases Nat.eq_or_lt_of_le hi with e | e
          · rw [← e]; omega
          · have := rise_lt h e hl; omega
    · rw [placeF_end l key _ a b hab]
      exact ⟨by omega, h4, fun i hi => h5 i (by omega)⟩
theorem place_spec {l : List Int} (h : Rise l) (key : Int) : place l key ≤ l.length ∧ (∀ i, i < place l key → l.getD i 0 < key) ∧ (∀ i, place l key ≤ i → i < l.length → key ≤ l.getD i 0) :=
  placeF_spec h key l.length 0 l.length (by omega) (by omega) (Nat.le_refl _) (fun i hi => absurd hi (Nat.not_lt_zero i)) (fun i hi hl => absurd hl (by omega))
theorem getD_of {l : List Int} {i : Nat} (h : i < l.length) : l.getD i 0 = l[i] := by
  simp [List.getD_eq_getElem?_getD, List.getElem?_eq_getElem h]
theorem take_low {l : List Int} (h : Rise l) (key : Int) : ∀ x ∈ l.take (place l key), x < key := by
  intro x hx
  obtain ⟨j, hj, rfl⟩ := List.mem_take_iff_getElem.1 hx
  have := (place_spec h key).2.1 j (by omega)
  rwa [getD_of (by omega)] at this
theorem drop_high {l : List Int} (h : Rise l) (key : Int) : ∀ x ∈ l.drop (place l key), key ≤ x := by
  intro x hx
  obtain ⟨j, hj, rfl⟩ := List.mem_drop_iff_getElem.1 hx
  have := (place_spec h key).2.2 (place l key + j) (by omega) (by omega)
  rwa [getD_of (by omega)] at this
theorem place_lows {l : List Int} (h : Rise l) (key : Int) : place l key = lows l key := by
  have e : lows l key = lows (l.take (place l key)) key + lows (l.drop (place l key)) key := by
    unfold lows
    rw [← List.countP_append, List.take_append_drop]
  have e1 : lows (l.take (place l key)) key = place l key := by
    have : lows (l.take (place l key)) key = (l.take (place l key)).length := List.countP_eq_length.2 (fun x hx => by simpa using take_low h key x hx)
    rw [this, List.length_take]
    have := (place_spec h key).1
    omega
  have e2 : lows (l.drop (place l key)) key = 0 := List.countP_eq_zero.2 (fun x hx => by have := drop_high h key x hx; simpa using this)
  omega
theorem isAt_mem {l : List Int} (h : Rise l) (key : Int) : isAt l key = true ↔ key ∈ l := by
  unfold isAt
  rw [Bool.and_eq_true, decide_eq_true_eq, beq_iff_eq]
  constructor
  · rintro ⟨h1, h2⟩
    rw [getD_of h1] at h2
    rw [← h2]
    exact List.getElem_mem h1
  · intro hm
    obtain ⟨j, hj, e⟩ := List.getElem_of_mem hm
    have e2 : l.getD j 0 = key := by rw [getD_of hj]; exact e
    have h1 : ¬ j < place l key := fun hlt => by have := (place_spec h key).2.1 j hlt; omega
    have hlt : place l key < l.length := by omega
    have h3 := (place_spec h key).2.2 (place l key) (Nat.le_refl _) hlt
    refine ⟨hlt, ?_⟩
    rcases Nat.eq_or_lt_of_le (Nat.le_of_not_lt h1) with e3 | e3
    · rw [e3]; exact e2
    · have := rise_lt h e3 hj; omega
theorem isAt_false {l : List Int} (h : Rise l) (key : Int) : isAt l key = false ↔ key ∉ l := by
  rw [← isAt_mem h key]; simp
theorem isAt_get {l : List Int} {key : Int} (h : isAt l key = true) : place l key < l.length ∧ l.getD (place l key) 0 = key := by
  unfold isAt at h
  rw [Bool.and_eq_true, decide_eq_true_eq, beq_iff_eq] at h
  exact h
theorem ups_lows {l : List Int} (h : Rise l) (key : Int) : ups l key = lows l key + (if key ∈ l then 1 else 0) := by
  unfold ups lows
  induction l with
  | nil => simp
  | cons y l ih =>
    have h' := List.pairwise_cons.1 h
    have ih' := ih h'.2
    rw [List.countP_cons, List.countP_cons]
    by_cases e : y = key
    · subst e
      have hn : y ∉ l := fun hm => by have := h'.1 y hm; omega
      rw [if_neg hn] at ih'
      simp
      exact ih'
    · have e1 : (key ∈ y :: l) ↔ key ∈ l := by simp [Ne.symm e]
      simp only [e1]
      by_cases hm : key ∈ l
      · rw [if_pos hm] at ih' ⊢
        by_cases hk : y < key
        · rw [if_pos (by simp; omega), if_pos (by simp; omega)]; omega
        · rw [if_neg (by simp; omega), if_neg (by simp; omega)]; omega
      · rw [if_neg hm] at ih' ⊢
        by_cases hk : y < key
        · rw [if_pos (by simp; omega), if_pos (by simp; omega)]; omega
        · rw [if_neg (by simp; omega), if_neg (by simp; omega)]; omega
theorem atF_ups (x : Nd) (h : Rise x.keys) (key : Int) : atF x key = ups x.keys key := by
  rw [atF, ups_lows h, place_lows h]
  by_cases hm : key ∈ x.keys
  · rw [if_pos ((isAt_mem h key).2 hm), if_pos hm]
  · rw [if_neg (by rw [(isAt_false h key).2 hm]; simp), if_neg hm]; omega
theorem rise_lay {l : List Int} (h : Rise l) (key : Int) : Rise (laidF l [key] (place l key) (goneF (isAt l key))) := by
  unfold laidF Rise
  have h0 : (l.take (place l key) ++ l.drop (place l key)).Pairwise (· < ·) := by rw [List.take_append_drop]; exact h
  rw [List.pairwise_append] at h0
  obtain ⟨p1, p2, p3⟩ := h0
  have hs : (l.drop (place l key + goneF (isAt l key))).Sublist (l.drop (place l key)) := by
    rw [← List.drop_drop]; exact List.drop_sublist _ _
  have hlow := take_low h key
  have hgt : ∀ x ∈ l.drop (place l key + goneF (isAt l key)), key < x := by
    intro x hx
    have h1 := drop_high h key x (hs.mem hx)
    rcases Int.lt_or_eq_of_le h1 with e | e
    · exact e
    · exfalso
      subst e
      have hmem : key ∈ l := (List.drop_sublist _ _).mem hx
      rw [(isAt_mem h key).2 hmem] at hx
      obtain ⟨j, hj, e2⟩ := List.mem_drop_iff_getElem.1 hx
      have hg := isAt_get ((isAt_mem h key).2 hmem)
      have := rise_lt h (i := place l key) (j := place l key + goneF true + j) (by simp [goneF]; omega) (by simp only [goneF] at hj ⊢; omega)
      rw [getD_of (l := l) (i := place l key + goneF true + j) (by simp only [goneF] at hj ⊢; omega), e2] at this
      omega
  rw [List.append_assoc, List.pairwise_append]
  refine ⟨p1, ?_, ?_⟩
  · rw [List.singleton_append, List.pairwise_cons]
    exact ⟨fun x hx => hgt x hx, p2.sublist hs⟩
  · intro a ha b hb
    rw [List.singleton_append, List.mem_cons] at hb
    rcases hb with rfl | hb
    · exact hlow a ha
    · exact p3 a ha b (hs.mem hb)
theorem rise_out {l : List Int} (h : Rise l) (a g : Nat) : Rise (laidF l [] a g) := by
  unfold laidF Rise
  rw [List.append_nil]
  have h0 : (l.take a ++ l.drop a).Pairwise (· < ·) := by rw [List.take_append_drop]; exact h
  rw [List.pairwise_append] at h0 ⊢
  have hs : (l.drop (a + g)).Sublist (l.drop a) := by rw [← List.drop_drop]; exact List.drop_sublist _ _
  exact ⟨h0.1, h0.2.1.sublist hs, fun x hx y hy => h0.2.2 x hx y (hs.mem hy)⟩
theorem laidF_size {α : Type} (l more : List α) (a g : Nat) (h : a + g ≤ l.length) : (laidF l more a g).length + g = l.length + more.length := by
  simp only [laidF, List.length_append, List.length_take, List.length_drop]
  omega
theorem sumS_append (a b : List ByteArray) : sumS (a ++ b) = sumS a + sumS b := by
  induction a with
  | nil => simp [sumS]
  | cons s l ih => simp only [List.cons_append, sumS, ih]; omega
theorem sumS_laid0 (l : List ByteArray) (v : ByteArray) (a : Nat) : sumS (laidF l [v] a 0) = sumS l + v.size := by
  have e : sumS (l.take a) + sumS (l.drop a) = sumS l := by rw [← sumS_append, List.take_append_drop]
  simp only [laidF, sumS_append, sumS, Nat.add_zero]
  omega
theorem sumS_laid1 (l : List ByteArray) (v d : ByteArray) (a : Nat) (h : a < l.length) : sumS (laidF l [v] a 1) = sumS l + v.size - (l.getD a d).size := by
  have e : sumS (l.take a) + sumS (l.drop a) = sumS l := by rw [← sumS_append, List.take_append_drop]
  rw [drop_getD l d a h] at e
  simp only [sumS] at e
  simp only [laidF, sumS_append, sumS]
  omega
/-- A leaf as Put makes it. -/
structure LeafOk (x : Nd) (n : Nat) : Prop where
  leaf : x.leaf = true
  kids : x.kids = []
  same : x.vals.length = x.keys.length
  rise : Rise x.keys
  few : x.keys.length ≤ n
  small : ∀ v ∈ x.vals, v.size ≤ 40
theorem LeafOk.place {x : Nd} {n : Nat} (h : LeafOk x n) (key : Int) : A.place x.keys key + goneF (isAt x.keys key) ≤ x.keys.length := by
  have h1 := (place_spec h.rise key).1
  cases e : isAt x.keys key with
  | true => have := (isAt_get e).1; simp only [goneF, if_true]; omega
  | false => simp [goneF]; exact h1
theorem LeafOk.put {x : Nd} {n : Nat} (h : LeafOk x n) (key : Int) (v : ByteArray) (hv : v.size ≤ 40) : LeafOk (putF x key v) (n + 1) := by
  have hp := h.place key
  have e1 := laidF_size x.keys [key] (A.place x.keys key) (goneF (isAt x.keys key)) hp
  have e2 := laidF_size x.vals [v] (A.place x.keys key) (goneF (isAt x.keys key)) (by rw [h.same]; exact hp)
  simp only [List.length_singleton] at e1 e2
  have hsame := h.same
  have hfew := h.few
  rw [putF, if_pos h.leaf]
  refine ⟨rfl, rfl, ?_, rise_lay h.rise key, ?_, ?_⟩
  · show (laidF _ _ _ _).length = (laidF _ _ _ _).length
    omega
  · show (laidF _ _ _ _).length ≤ _
    omega
  · intro u hu
    have hu' : u ∈ x.vals.take (A.place x.keys key) ++ [v] ++ x.vals.drop (A.place x.keys key + goneF (isAt x.keys key)) := hu
    rw [List.mem_append, List.mem_append, List.mem_singleton] at hu'
    rcases hu' with (hu' | rfl) | hu'
    · exact h.small u ((List.take_sublist _ _).mem hu')
    · exact hv
    · exact h.small u ((List.drop_sublist _ _).mem hu')
theorem cut40_le (s : ByteArray) : (cut40 s).size ≤ 40 := by
  unfold cut40
  rw [ByteArray.size_extract]
  omega
theorem cut40_size (s : ByteArray) : (cut40 s).size = min s.size 40 := by
  unfold cut40
  rw [ByteArray.size_extract]
  omega
theorem grow_ok_go : ∀ (ps : List (Int × ByteArray)) (x : Nd) (n : Nat), LeafOk x n → LeafOk (ps.foldl growStep x) (n + ps.length)
  | [], x, n, h => h
  | p :: ps, x, n, h => by
    have := grow_ok_go ps (growStep x p) (n + 1) (h.put p.1 (cut40 p.2) (cut40_le p.2))
    rw [show n + 1 + ps.length = n + (ps.length + 1) by omega] at this
    exact this
theorem LeafOk.more {x : Nd} {n m : Nat} (h : LeafOk x n) (hm : n ≤ m) : LeafOk x m := ⟨h.leaf, h.kids, h.same, h.rise, Nat.le_trans h.few hm, h.small⟩
theorem grow_ok (ps : List (Int × ByteArray)) : LeafOk (growF ps) 20 := by
  have := grow_ok_go (ps.take 20) ⟨true, [], [], []⟩ 0 ⟨rfl, rfl, rfl, List.Pairwise.nil, Nat.le_refl _, fun v hv => by cases hv⟩
  exact this.more (by rw [List.length_take]; omega)
theorem sumS_small : ∀ (l : List ByteArray), (∀ v ∈ l, v.size ≤ 40) → sumS l ≤ 40 * l.length
  | [], _ => by simp [sumS]
  | s :: l, h => by
    have h1 := sumS_small l (fun v hv => h v (List.mem_cons_of_mem _ hv))
    have h2 := h s (List.mem_cons_self ..)
    simp only [sumS, List.length_cons]
    omega
theorem LeafOk.sum {x : Nd} {n : Nat} (h : LeafOk x n) : sumS x.vals ≤ 40 * n := by
  have h1 := sumS_small x.vals h.small
  have h2 := h.same
  have h3 := h.few
  have : ((x.vals.length : Nat) : Int) ≤ n := by omega
  omega
/-- A branch as Hang makes it. -/
structure BranchOk (x : Nd) (n : Nat) : Prop where
  leaf : x.leaf = false
  vals : x.vals = []
  kids : x.kids.length = x.keys.length + 1
  rise : Rise x.keys
  few : x.keys.length ≤ n
theorem not_stands {x : Nd} (h : Rise x.keys) {key : Int} (hs : ¬ standsB x key = true) : key ∉ x.keys := by
  intro hm
  refine hs ?_
  have h1 := (isAt_mem h key).2 hm
  have h2 := isAt_get h1
  unfold standsB atF
  rw [if_pos h1, Nat.add_sub_cancel, Bool.and_eq_true, decide_eq_true_eq, decide_eq_true_eq]
  exact ⟨by omega, h2.2⟩
theorem stands_mem {x : Nd} {key : Int} (hs : standsB x key = true) : key ∈ x.keys := by
  unfold standsB at hs
  rw [Bool.and_eq_true, decide_eq_true_eq, decide_eq_true_eq] at hs
  have hl := at_le x key
  rw [← hs.2, getD_of (by omega)]
  exact List.getElem_mem _
theorem at_not {x : Nd} (h : Rise x.keys) {key : Int} (hm : key ∉ x.keys) : atF x key = place x.keys key := by
  rw [atF, if_neg (by rw [(isAt_false h key).2 hm]; simp)]
theorem BranchOk.hang {x : Nd} {n : Nat} (h : BranchOk x n) {key : Int} (hm : key ∉ x.keys) (kid : Int) : BranchOk (hangF x (atF x key : Nat) key kid) (n + 1) := by
  have hl := at_le x key
  have hk := h.kids
  have hf := h.few
  rw [hangF, if_pos ⟨h.leaf, by omega, by omega⟩, Int.toNat_natCast]
  have e1 := laidF_size x.keys [key] (atF x key) 0 (by omega)
  have e2 := laidF_size x.kids [kid] (atF x key + 1) 0 (by omega)
  simp only [List.length_singleton] at e1 e2
  refine ⟨rfl, rfl, ?_, ?_, ?_⟩
  · show (laidF _ _ _ _).length = (laidF _ _ _ _).length + 1
    omega
  · have := rise_lay h.rise key
    rw [(isAt_false h.rise key).2 hm] at this
    rw [at_not h.rise hm]
    exact this
  · show (laidF _ _ _ _).length ≤ _
    omega
theorem BranchOk.more {x : Nd} {n m : Nat} (h : BranchOk x n) (hm : n ≤ m) : BranchOk x m := ⟨h.leaf, h.vals, h.kids, h.rise, Nat.le_trans h.few hm⟩
theorem branch_ok_go : ∀ (ps : List (Int × ByteArray)) (i : Nat) (x : Nd) (n : Nat), BranchOk x n → BranchOk (branchGo ps i x) (n + ps.length)
  | [], i, x, n, h => h
  | p :: ps, i, x, n, h => by
    rw [branchGo]
    have hs : BranchOk (branchStep x i p.1) (n + 1) := by
      unfold branchStep
      split
      · exact h.more (by omega)
      · rename_i hn
        exact h.hang (not_stands h.rise hn) _
    have := branch_ok_go ps (i + 1) _ _ hs
    rw [show n + 1 + ps.length = n + (ps.length + 1) by omega] at this
    exact this
theorem branch_ok (ps : List (Int × ByteArray)) : BranchOk (branchF ps) 20 := by
  have := branch_ok_go (ps.take 20) 0 ⟨false, [], [], [2]⟩ 0 ⟨rfl, rfl, rfl, List.Pairwise.nil, Nat.le_refl _⟩
  exact this.more (by rw [List.length_take]; omega)
/-- What Put makes of the size. -/
theorem size_put0 {x : Nd} {n : Nat} (h : LeafOk x n) {key : Int} (hm : isAt x.keys key = false) (v : ByteArray) : sizeF (putF x key v) = sizeF x + (9 + v.size) := by
  have hp := h.place key
  have hs := h.same
  have e1 := laidF_size x.keys [key] (A.place x.keys key) 0 (by rw [hm] at hp; exact hp)
  simp only [List.length_singleton] at e1
  rw [putF, if_pos h.leaf, hm]
  unfold sizeF
  rw [if_pos rfl, if_pos h.leaf]
  show (1 : Int) + 9 * ((laidF x.keys [key] (A.place x.keys key) 0).length : Int) + sumS (laidF x.vals [v] (A.place x.keys key) 0) = _
  rw [sumS_laid0]
  omega
theorem size_put1 {x : Nd} {n : Nat} (h : LeafOk x n) {key : Int} (hm : isAt x.keys key = true) (v d : ByteArray) : sizeF (putF x key v) = sizeF x + (v.size - (x.vals.getD (A.place x.keys key) d).size) := by
  have hp := h.place key
  have hs := h.same
  have hg := (isAt_get hm).1
  have e1 := laidF_size x.keys [key] (A.place x.keys key) 1 (by omega)
  simp only [List.length_singleton] at e1
  rw [putF, if_pos h.leaf, hm]
  unfold sizeF
  rw [if_pos rfl, if_pos h.leaf]
  show (1 : Int) + 9 * ((laidF x.keys [key] (A.place x.keys key) 1).length : Int) + sumS (laidF x.vals [v] (A.place x.keys key) 1) = _
  rw [sumS_laid1 _ _ d _ (by omega)]
  omega
theorem size_hang {x : Nd} {n : Nat} (h : BranchOk x n) (key kid : Int) : sizeF (hangF x (atF x key : Nat) key kid) = sizeF x + 10 := by
  have hl := at_le x key
  have hk := h.kids
  rw [hangF, if_pos ⟨h.leaf, by omega, by omega⟩, Int.toNat_natCast]
  have e1 := laidF_size x.keys [key] (atF x key) 0 (by omega)
  have e2 := laidF_size x.kids [kid] (atF x key + 1) 0 (by omega)
  simp only [List.length_singleton] at e1 e2
  unfold sizeF
  rw [if_neg (by simp), if_neg (by rw [h.leaf]; decide)]
  show (1 : Int) + 8 * ((laidF x.keys [key] (atF x key) 0).length : Int) + 2 * ((laidF x.kids [kid] (atF x key + 1) 0).length : Int) = _
  omega
theorem size_branch {x : Nd} {n : Nat} (h : BranchOk x n) : sizeF x = 3 + 10 * (x.keys.length : Int) := by
  have hk := h.kids
  unfold sizeF
  rw [if_neg (by rw [h.leaf]; decide)]
  omega
theorem LeafOk.size {x : Nd} {n : Nat} (h : LeafOk x n) : 0 ≤ sizeF x ∧ sizeF x ≤ 1 + 49 * n := by
  have h1 := h.sum
  have h2 := sumS_nonneg x.vals
  have h3 := h.few
  unfold sizeF
  rw [if_pos h.leaf]
  omega
end Go.Proofs.Ytnghbfegijnolaa.A
