/-
  Nodes, plainly: what a leaf has at a key; Put and Without against it.
-/
import Derived.Test.YtnghbfegijnolaaB3
namespace Go.Proofs.Ytnghbfegijnolaa.A
set_option linter.unusedVariables false
set_option linter.unusedSimpArgs false
def lookN (x : Nd) (k : Int) : ByteArray := if isAt x.keys k = true then x.vals.getD (place x.keys k) ⟨#[]⟩ else ⟨#[]⟩
theorem mem_put {x : Nd} {n : Nat} (h : LeafOk x n) (key : Int) (v : ByteArray) (k : Int) : isAt (putF x key v).keys k = (isAt x.keys k || (key == k)) := by
  have h' := rise_lay h.rise key
  rw [putF, if_pos h.leaf]
  show isAt (laidF x.keys [key] (place x.keys key) (goneF (isAt x.keys key))) k = _
  rw [Bool.eq_iff_iff, isAt_mem h', Bool.or_eq_true, isAt_mem h.rise, beq_iff_eq]
  have hp := h.place key
  unfold laidF
  rw [List.mem_append, List.mem_append, List.mem_singleton]
  have hall : k ∈ x.keys ↔ k ∈ x.keys.take (place x.keys key) ∨ k ∈ x.keys.drop (place x.keys key) := by rw [← List.mem_append, List.take_append_drop]
  cases e : isAt x.keys key with
  | false =>
    rw [show goneF false = 0 from rfl, Nat.add_zero, hall]
    constructor
    · rintro ((h1 | rfl) | h1)
      · exact .inl (.inl h1)
      · exact .inr rfl
      · exact .inl (.inr h1)
    · rintro ((h1 | h1) | rfl)
      · exact .inl (.inl h1)
      · exact .inr h1
      · exact .inl (.inr rfl)
  | true =>
    obtain ⟨hlt, hg⟩ := isAt_get e
    rw [show goneF true = 1 from rfl, hall, drop_getD x.keys 0 _ hlt, hg, List.mem_cons]
    constructor
    · rintro ((h1 | rfl) | h1)
      · exact .inl (.inl h1)
      · exact .inr rfl
      · exact .inl (.inr (.inr h1))
    · rintro ((h1 | rfl | h1) | rfl)
      · exact .inl (.inl h1)
      · exact .inl (.inr rfl)
      · exact .inr h1
      · exact .inl (.inr rfl)
theorem lows_append (a b : List Int) (k : Int) : lows (a ++ b) k = lows a k + lows b k := List.countP_append
theorem lows_one (key k : Int) : lows [key] k = if key < k then 1 else 0 := by unfold lows; rw [List.countP_singleton]; simp
theorem lows_put {x : Nd} {n : Nat} (h : LeafOk x n) (key : Int) (k : Int) : lows (laidF x.keys [key] (place x.keys key) (goneF (isAt x.keys key))) k = lows x.keys k + (if isAt x.keys key = false ∧ key < k then 1 else 0) := by
  have e0 : lows x.keys k = lows (x.keys.take (place x.keys key)) k + lows (x.keys.drop (place x.keys key)) k := by rw [← lows_append, List.take_append_drop]
  unfold laidF
  rw [lows_append, lows_append, lows_one]
  cases e : isAt x.keys key with
  | false =>
    rw [show goneF false = 0 from rfl, Nat.add_zero]
    simp only [true_and]
    omega
  | true =>
    obtain ⟨hlt, hg⟩ := isAt_get e
    rw [drop_getD x.keys 0 _ hlt, hg, show key :: x.keys.drop (place x.keys key + 1) = [key] ++ x.keys.drop (place x.keys key + 1) from rfl, lows_append, lows_one] at e0
    rw [show goneF true = 1 from rfl]
    simp only [Bool.true_eq_false, false_and, if_false]
    omega
theorem lows_mono (l : List Int) {k k' : Int} (h : k ≤ k') : lows l k ≤ lows l k' :=
  List.countP_mono_left (fun x _ hx => by simp only [decide_eq_true_eq] at hx ⊢; omega)
theorem lows_strict {k k' : Int} (h : k < k') : ∀ l : List Int, k ∈ l → lows l k < lows l k'
  | [], hm => by cases hm
  | y :: l, hm => by
    have h1 := lows_mono l (Int.le_of_lt h)
    unfold lows at h1 ⊢
    rw [List.countP_cons, List.countP_cons]
    rcases List.mem_cons.1 hm with e | e
    · subst e
      rw [if_neg (by simp), if_pos (by simpa using h)]
      omega
    · have h2 := lows_strict h l e
      unfold lows at h2
      by_cases hy : y < k
      · rw [if_pos (by simpa using hy), if_pos (by simp; omega)]; omega
      · rw [if_neg (by simpa using hy)]; omega
theorem lows_out {k k' : Int} (h : k < k') (l : List Int) (hm : k ∉ l) (h2 : ∀ y ∈ l, ¬ (k < y ∧ y < k')) : lows l k = lows l k' := by
  unfold lows
  refine List.countP_congr fun y hy => ?_
  have h3 := h2 y hy
  have h4 : y ≠ k := fun e => hm (e ▸ hy)
  simp only [decide_eq_true_eq]
  omega
theorem laid_gt1 {α : Type} (l : List α) (k d : α) (a i : Nat) (h : a < l.length) (hi : a < i) : (laidF l [k] a 1).getD i d = l.getD i d := by
  have hl : (l.take a ++ [k]).length = a + 1 := by rw [List.length_append, List.length_take, List.length_singleton]; omega
  simp only [laidF, List.getD_eq_getElem?_getD]
  rw [List.getElem?_append_right (by omega), hl, List.getElem?_drop, show a + 1 + (i - (a + 1)) = i by omega]
theorem look_put {x : Nd} {n : Nat} (h : LeafOk x n) (key : Int) (v : ByteArray) (k : Int) : lookN (putF x key v) k = if key = k then v else lookN x k := by
  have h' := rise_lay h.rise key
  have hm := mem_put h key v k
  have hp := h.place key
  have hs := h.same
  have hpl := (place_spec h.rise key).1
  unfold lookN
  rw [hm]
  have ek : (putF x key v).keys = laidF x.keys [key] (place x.keys key) (goneF (isAt x.keys key)) := by rw [putF, if_pos h.leaf]
  have ev : (putF x key v).vals = laidF x.vals [v] (place x.keys key) (goneF (isAt x.keys key)) := by rw [putF, if_pos h.leaf]
  rw [ek, ev, place_lows h', lows_put h, place_lows h.rise k]
  by_cases e : key = k
  · subst e
    rw [if_pos (by simp), if_pos rfl, if_neg (by omega), Nat.add_zero, ← place_lows h.rise, laid_eq _ _ _ _ _ (by omega)]
  · rw [if_neg e]
    have e2 : (key == k) = false := by simpa using e
    rw [e2, Bool.or_false]
    by_cases hk : isAt x.keys k = true
    · rw [if_pos hk, if_pos hk]
      have hmem := (isAt_mem h.rise k).1 hk
      have hpk := isAt_get hk
      rw [place_lows h.rise k] at hpk
      by_cases hlt : key < k
      · cases e3 : isAt x.keys key with
        | true =>
          rw [if_neg (by simp), Nat.add_zero, show goneF true = 1 from rfl]
          have := lows_strict hlt x.keys ((isAt_mem h.rise key).1 e3)
          rw [← place_lows h.rise key] at this
          exact laid_gt1 _ _ _ _ _ (by omega) (by omega)
        | false =>
          rw [if_pos ⟨rfl, hlt⟩, show goneF false = 0 from rfl]
          have := lows_mono x.keys (Int.le_of_lt hlt)
          rw [← place_lows h.rise key] at this
          exact laid_gt _ _ _ _ _ (by omega) (by omega)
      · rw [if_neg (by omega), Nat.add_zero]
        have := lows_strict (show k < key by omega) x.keys hmem
        rw [← place_lows h.rise key] at this
        exact laid_lt _ _ _ _ _ _ (by omega) (by omega)
    · rw [if_neg hk, if_neg hk]
theorem place_at {l : List Int} (h : Rise l) {i : Nat} (hi : i < l.length) : place l (l.getD i 0) = i ∧ isAt l (l.getD i 0) = true := by
  have hm : l.getD i 0 ∈ l := by rw [getD_of hi]; exact List.getElem_mem _
  have h1 := (isAt_mem h _).2 hm
  refine ⟨?_, h1⟩
  have h2 := isAt_get h1
  rcases Nat.lt_trichotomy (place l (l.getD i 0)) i with h3 | h3 | h3
  · have := rise_lt h h3 hi; omega
  · exact h3
  · have := rise_lt h h3 h2.1; omega
theorem look_at {x : Nd} {n : Nat} (h : LeafOk x n) {i : Nat} (hi : i < x.keys.length) : lookN x (x.keys.getD i 0) = x.vals.getD i ⟨#[]⟩ := by
  have := place_at h.rise hi
  unfold lookN
  rw [if_pos this.2, this.1]
theorem laid_out_in {α : Type} (l : List α) (d : α) (i : Nat) (h : i < l.length) : laidF (laidF l [] i 1) [l.getD i d] i 0 = l := by
  have hl : (l.take i).length = i := by rw [List.length_take]; omega
  unfold laidF
  rw [List.append_nil, Nat.add_zero i, List.take_left' hl, List.drop_left' hl, List.append_assoc, List.singleton_append, ← drop_getD l d i h, List.take_append_drop]
theorem lows_take {l : List Int} (h : Rise l) {i : Nat} (hi : i < l.length) : lows (laidF l [] i 1) (l.getD i 0) = i ∧ l.getD i 0 ∉ laidF l [] i 1 := by
  have hl : (l.take i).length = i := by rw [List.length_take]; omega
  have e1 : ∀ y ∈ l.take i, y < l.getD i 0 := by
    intro y hy
    obtain ⟨j, hj, rfl⟩ := List.mem_take_iff_getElem.1 hy
    have := rise_lt h (i := j) (j := i) (by omega) hi
    rwa [getD_of (l := l) (i := j) (by omega)] at this
  have e2 : ∀ y ∈ l.drop (i + 1), l.getD i 0 < y := by
    intro y hy
    obtain ⟨j, hj, rfl⟩ := List.mem_drop_iff_getElem.1 hy
    have := rise_lt h (i := i) (j := i + 1 + j) (by omega) (by omega)
    rwa [getD_of (l := l) (i := i + 1 + j) (by omega)] at this
  unfold laidF
  rw [List.append_nil]
  constructor
  · rw [lows_append]
    have h1 : lows (l.take i) (l.getD i 0) = (l.take i).length := List.countP_eq_length.2 (fun y hy => by simpa using e1 y hy)
    have h2 : lows (l.drop (i + 1)) (l.getD i 0) = 0 := List.countP_eq_zero.2 (fun y hy => by have := e2 y hy; rw [decide_eq_true_eq]; omega)
    omega
  · rw [List.mem_append]
    rintro (hm | hm)
    · have := e1 _ hm; omega
    · have := e2 _ hm; omega
/-- A leaf without its key i, and that put in again. -/
structure Taken (x m : Nd) (i : Nat) : Prop where
  ok : LeafOk m 20
  gone : isAt m.keys (x.keys.getD i 0) = false
  back : putF m (x.keys.getD i 0) (x.vals.getD i ⟨#[]⟩) = x
  len : m.keys.length + 1 = x.keys.length
theorem taken {x : Nd} (h : LeafOk x 20) {i : Nat} (hi : i < x.keys.length) : Taken x (withoutF x (i : Int)) i := by
  have hs := h.same
  have hf := h.few
  have em : withoutF x (i : Int) = ⟨true, laidF x.keys [] i 1, laidF x.vals [] i 1, []⟩ := by rw [withoutF, if_pos ⟨h.leaf, by omega, by omega⟩, Int.toNat_natCast]
  have hr := rise_out h.rise i 1
  have e1 := laidF_size x.keys [] i 1 (by omega)
  have e2 := laidF_size x.vals [] i 1 (by omega)
  simp only [List.length_nil] at e1 e2
  obtain ⟨t1, t2⟩ := lows_take h.rise hi
  rw [em]
  have hg : isAt (laidF x.keys [] i 1) (x.keys.getD i 0) = false := (isAt_false hr _).2 t2
  refine ⟨⟨rfl, rfl, by show (laidF _ _ _ _).length = (laidF _ _ _ _).length; omega, hr, by show (laidF _ _ _ _).length ≤ _; omega, fun u hu => ?_⟩, hg, ?_, by show (laidF _ _ _ _).length + 1 = _; omega⟩
  · have hu' : u ∈ x.vals.take i ++ [] ++ x.vals.drop (i + 1) := hu
    rw [List.append_nil, List.mem_append] at hu'
    rcases hu' with hu' | hu'
    · exact h.small u ((List.take_sublist _ _).mem hu')
    · exact h.small u ((List.drop_sublist _ _).mem hu')
  · rw [putF, if_pos rfl]
    show Nd.mk true (laidF (laidF x.keys [] i 1) [x.keys.getD i 0] (place (laidF x.keys [] i 1) (x.keys.getD i 0)) (goneF (isAt (laidF x.keys [] i 1) (x.keys.getD i 0)))) (laidF (laidF x.vals [] i 1) [x.vals.getD i ⟨#[]⟩] (place (laidF x.keys [] i 1) (x.keys.getD i 0)) (goneF (isAt (laidF x.keys [] i 1) (x.keys.getD i 0)))) [] = x
    rw [hg, place_lows hr, t1, show goneF false = 0 from rfl, laid_out_in _ _ _ hi, laid_out_in _ _ _ (by omega), ← h.leaf, ← h.kids]
end Go.Proofs.Ytnghbfegijnolaa.A
