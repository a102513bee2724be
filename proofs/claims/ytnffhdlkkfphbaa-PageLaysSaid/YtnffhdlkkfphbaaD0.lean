/-
  A disk's map of what loose sectors had: looked up, and written. A map of the call's own, from whole numbers to texts.
-/
import Derived.Test.YtnffhdlkkfphbaaProg
import Derived.Test.YtnffhdlkkfphbaaSh
import Derived.Maps.OwnSet
import Derived.Maps.Own
import Derived.Maps.StringElems
import Derived.Maps.Views
import Derived.Lib.Hide
import Derived.WalkKit
namespace Go.Proofs.Ytnffhdlkkfphbaa.D
set_option linter.unusedVariables false
set_option linter.unusedSimpArgs false
open Go.RowKit Go.Maps
open Go.Lib (hid)
theorem law78 : Keyed Try.prog 3 := int_keyed Try.underlying3
def getS (L : List (Int × ByteArray)) (k : Int) : ByteArray := ((L.find? fun p => p.1 == k).map (·.2)).getD ⟨#[]⟩
def hasS (L : List (Int × ByteArray)) (k : Int) : Bool := (L.find? fun p => p.1 == k).isSome
def i64ok (k : Int) : Prop := -9223372036854775808 ≤ k ∧ k ≤ 9223372036854775807
theorem wf_of {k : Int} (h : i64ok k) : (Lit.int .i64 k).wf = true := by
  simp [Lit.wf, IntKind.min, IntKind.max, IntKind.signed, IntKind.bits]
  exact ⟨h.1, by have := h.2; omega⟩
/-- Block b is a map that reads as the list L. -/
def MapS (w : World) (b : Nat) (L : List (Int × ByteArray)) : Prop :=
  ∃ D : DataW Unit, w.ownsMap Try.prog 3 (plainElem Try.prog 9) b L.length D ∧ IsMap D ∧ (∀ p ∈ L, i64ok p.1 ∧ p.2.size ≤ 1000000000) ∧
    ∀ k, i64ok k → has D (.int .i64 k) = hasS L k ∧ ∀ z, D.atKey (.int .i64 k) z = if hasS L k = true then .lit (.string (getS L k).data.toList) else z
theorem MapS.lt {w : World} {b : Nat} {L : List (Int × ByteArray)} (h : MapS w b L) : b < w.heap.size := by
  obtain ⟨D, h1, _⟩ := h
  exact h1.lt
theorem MapS.kept {w w' : World} {b : Nat} {L : List (Int × ByteArray)} (h : MapS w b L) (hb : w'.heap[b]? = w.heap[b]?) : MapS w' b L := by
  obtain ⟨D, ⟨es, clock, h1, h2⟩, r⟩ := h
  exact ⟨D, ⟨es, clock, hb.trans h1, h2⟩, r⟩
theorem MapS.new (w : World) : MapS (w.alloc (.map #[] 0)) w.heap.size [] := by
  refine ⟨.map [], World.ownsMap_made w _ _ _, isMap_empty, fun p hp => absurd hp List.not_mem_nil, fun k _ => ⟨rfl, fun z => ?_⟩⟩
  rw [if_neg (by simp [hasS])]
  exact atKey_of_not_has rfl z
theorem str_inv {v : Value} {s : ByteArray} {ps : List MemPlace} (h : plainElem (H := Unit) Try.prog 9 v = some (.lit (.string s.data.toList), ps)) : v = .string s := by
  obtain ⟨t, rfl, hz, _⟩ := plainElem_string_inv Try.underlying9 h
  have h1 : s.data.toList = t.data.toList := by simpa using (Prod.mk.inj hz).1
  have e : s.data = t.data := Array.toList_inj.1 h1
  rw [ByteArray.ext e]
theorem zero9 (w : World) : (zeroValue 9).run Try.prog w = .ok (.string ⟨#[]⟩) w := by kernel_rfl
theorem key_of {k : Int} (h : i64ok k) : keyOf Try.prog 3 (.int .i64 k) = some (.int .i64 k) := keyOf_int_mk Try.underlying3 (wf_of h)
theorem got {D : DataW Unit} {L : List (Int × ByteArray)} {k : Int} {v : Value} {ps : List MemPlace} (h : ∀ z, D.atKey (.int .i64 k) z = if hasS L k = true then .lit (.string (getS L k).data.toList) else z)
    (hv : plainElem (H := Unit) Try.prog 9 v = some (D.atKey (.int .i64 k) (.lit (.string [])), ps)) : v = .string (getS L k) := by
  rw [h] at hv
  by_cases c : hasS L k = true
  · rw [if_pos c] at hv
    exact str_inv hv
  · rw [if_neg c] at hv
    have e : getS L k = ⟨#[]⟩ := by
      unfold hasS at c
      unfold getS
      cases h : L.find? (fun p => p.1 == k) with
      | none => rfl
      | some x => rw [h] at c; exact absurd rfl c
    rw [e]
    exact str_inv hv
theorem zd9 : plainElem (H := Unit) Try.prog 9 (.string ⟨#[]⟩) = some (.lit (.string []), []) := plainElem_string Try.underlying9 (by decide)
theorem MapS.look_ok {w : World} {b : Nat} {L : List (Int × ByteArray)} (h : MapS w b L) {k : Int} (hk : i64ok k) :
    (Instr.lookup 78 (.map (some b)) (.int .i64 k) true).run Try.prog w = .ok (.tuple #[.string (getS L k), .bool (hasS L k)]) w := by
  obtain ⟨D, h1, h2, h3, h4⟩ := h
  obtain ⟨v, ps, hr, hv⟩ := h1.look_ok law78 Try.underlying78 (zero9 w) zd9 (key_of hk)
  rw [got (h4 k hk).2 hv, (h4 k hk).1] at hr
  exact hr
theorem MapS.look {w : World} {b : Nat} {L : List (Int × ByteArray)} (h : MapS w b L) {k : Int} (hk : i64ok k) :
    (Instr.lookup 78 (.map (some b)) (.int .i64 k) false).run Try.prog w = .ok (.string (getS L k)) w := by
  obtain ⟨D, h1, h2, h3, h4⟩ := h
  obtain ⟨v, ps, hr, hv⟩ := h1.lookup law78 Try.underlying78 (zero9 w) zd9 (key_of hk)
  rw [got (h4 k hk).2 hv] at hr
  exact hr
theorem hasS_app (L : List (Int × ByteArray)) (k j : Int) (s : ByteArray) (h : hasS L k = false) : hasS (L ++ [(k, s)]) j = (hasS L j || (k == j)) := by
  unfold hasS
  rw [List.find?_append]
  cases L.find? (fun p => p.1 == j) with
  | some x => simp
  | none =>
    by_cases e : k = j
    · subst e; simp
    · simp [e]
theorem getS_app (L : List (Int × ByteArray)) (k j : Int) (s : ByteArray) (h : hasS L k = false) : getS (L ++ [(k, s)]) j = if k = j then s else getS L j := by
  unfold getS
  rw [List.find?_append]
  by_cases e : k = j
  · subst e
    have : L.find? (fun p => p.1 == k) = none := by
      unfold hasS at h
      cases hq : L.find? (fun p => p.1 == k) with
      | none => rfl
      | some x => rw [hq] at h; simp at h
    rw [this]
    simp
  · rw [if_neg e]
    cases L.find? (fun p => p.1 == j) with
    | some x => simp
    | none => simp [e]
theorem MapS.put {w : World} {b : Nat} {L : List (Int × ByteArray)} (h : MapS w b L) {k : Int} (hk : i64ok k) (s : ByteArray) (hs : s.size ≤ 1000000000) (hl : L.length ≤ 1000000000) (hno : hasS L k = false) :
    ∃ w', (Instr.mapUpdate 78 (.map (some b)) (.int .i64 k) (.string s)).run Try.prog w = .ok () w' ∧ MapS w' b (L ++ [(k, s)]) ∧ w.grownBy w' (some b) ∧ w'.heap.size = w.heap.size := by
  obtain ⟨D, h1, h2, h3, h4⟩ := h
  obtain ⟨w', hr, ho, ht⟩ := h1.store law78 Try.underlying78 (by unfold maxLen; omega) (key_of hk) (plainElem_string Try.underlying9 (by unfold maxLen; omega) : plainElem (H := Unit) Try.prog 9 (.string s) = _)
  refine ⟨w', hr, ⟨_, by rw [List.length_append]; exact ho, h2.put _ _, ?_, fun j hj => ?_⟩, ht.grown, ?_⟩
  · intro p hp
    rcases List.mem_append.1 hp with hp | hp
    · exact h3 p hp
    · rw [List.mem_singleton.1 hp]; exact ⟨hk, hs⟩
  · have hkl : WideAt.IsKeyLit (.int .i64 k) := trivial
    rw [hasS_app L k j s hno, getS_app L k j s hno]
    by_cases e : k = j
    · subst e
      refine ⟨by rw [has_put_same h2 hkl]; simp, fun z => ?_⟩
      rw [atKey_put_same h2 hkl]
      simp
    · have hne : (Lit.int .i64 j) ≠ Lit.int .i64 k := fun h => by injection h with _ h; exact e h.symm
      refine ⟨by rw [has_put_other hne, (h4 j hj).1]; simp [e], fun z => ?_⟩
      rw [atKey_put_other hne, (h4 j hj).2]
      simp [e]
  · obtain ⟨es, clock, es', clock', _, rfl⟩ := ht
    simp [Go.ChangeMaps.setBlock]
end Go.Proofs.Ytnffhdlkkfphbaa.D
