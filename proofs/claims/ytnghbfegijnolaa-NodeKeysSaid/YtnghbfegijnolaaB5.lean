/-
  A map of the call's own, from keys to values, that says what a leaf says: looked up, written, counted.
-/
import Derived.Test.YtnghbfegijnolaaB4
import Derived.Maps.OwnSet
import Derived.Maps.Own
import Derived.Maps.StringElems
import Derived.Maps.Views
namespace Go.Proofs.Ytnghbfegijnolaa.A
set_option linter.unusedVariables false
set_option linter.unusedSimpArgs false
open Go.RowKit Go.Maps
open Go.Lib (hid)
theorem law23 : Keyed Try.prog 23 := int_keyed Try.underlying23
/-- Block b is a map, written at most m times, that says what the leaf x says. -/
def MapN (w : World) (b m : Nat) (x : Nd) : Prop :=
  ∃ D : DataW Unit, w.ownsMap Try.prog 23 (plainElem Try.prog 9) b m D ∧ Tidy D ∧ Go.Maps.size D = x.keys.length ∧
    ∀ k, (Lit.int .u64 k).wf = true → has D (.int .u64 k) = isAt x.keys k ∧ ∀ z, D.atKey (.int .u64 k) z = if isAt x.keys k = true then .lit (.string (lookN x k).data.toList) else z
theorem MapN.lt {w : World} {b m : Nat} {x : Nd} (h : MapN w b m x) : b < w.heap.size := by
  obtain ⟨D, h1, _⟩ := h
  exact h1.lt
theorem MapN.kept {w w' : World} {b m : Nat} {x : Nd} (h : MapN w b m x) (hb : w'.heap[b]? = w.heap[b]?) : MapN w' b m x := by
  obtain ⟨D, ⟨es, clock, h1, h2⟩, r⟩ := h
  exact ⟨D, ⟨es, clock, hb.trans h1, h2⟩, r⟩
theorem MapN.below {w w' : World} {b m : Nat} {x : Nd} (h : MapN w b m x) (hb : Below w.heap.size w w') : MapN w' b m x := h.kept (hb.block b h.lt)
theorem MapN.new (w : World) : MapN (w.alloc (.map #[] 0)) w.heap.size 0 ⟨true, [], [], []⟩ := by
  refine ⟨.map [], World.ownsMap_made w _ _ _, tidy_empty, rfl, fun k _ => ⟨rfl, fun z => ?_⟩⟩
  rw [if_neg (by simp [isAt])]
  exact atKey_of_not_has rfl z
theorem str_inv {v : Value} {s : ByteArray} {ps : List MemPlace} (h : plainElem (H := Unit) Try.prog 9 v = some (.lit (.string s.data.toList), ps)) : v = .string s := by
  obtain ⟨t, rfl, hz, _⟩ := plainElem_string_inv Try.underlying9 h
  have h1 : s.data.toList = t.data.toList := by simpa using (Prod.mk.inj hz).1
  have e : s.data = t.data := Array.toList_inj.1 h1
  rw [ByteArray.ext e]
theorem zero9 (w : World) : (zeroValue 9).run Try.prog w = .ok (.string ⟨#[]⟩) w := by kernel_rfl
theorem key_of {k : Int} (h : (Lit.int .u64 k).wf = true) : keyOf Try.prog 23 (.int .u64 k) = some (.int .u64 k) := keyOf_int_mk Try.underlying23 h
theorem got {D : DataW Unit} {x : Nd} {k : Int} {v : Value} {ps : List MemPlace} (h : ∀ z, D.atKey (.int .u64 k) z = if isAt x.keys k = true then .lit (.string (lookN x k).data.toList) else z)
    (hv : plainElem (H := Unit) Try.prog 9 v = some (D.atKey (.int .u64 k) (.lit (.string [])), ps)) : v = .string (lookN x k) := by
  rw [h] at hv
  by_cases c : isAt x.keys k = true
  · rw [if_pos c] at hv
    exact str_inv hv
  · rw [if_neg c] at hv
    have e : lookN x k = ⟨#[]⟩ := by
      unfold lookN
      rw [if_neg c]
    rw [e]
    exact str_inv hv
theorem zd9 : plainElem (H := Unit) Try.prog 9 (.string ⟨#[]⟩) = some (.lit (.string []), []) := plainElem_string Try.underlying9 (by decide)
theorem MapN.look_ok {w : World} {b m : Nat} {x : Nd} (h : MapN w b m x) {k : Int} (hk : (Lit.int .u64 k).wf = true) :
    (Instr.lookup 47 (.map (some b)) (.int .u64 k) true).run Try.prog w = .ok (.tuple #[.string (lookN x k), .bool (isAt x.keys k)]) w := by
  obtain ⟨D, h1, h2, h3, h4⟩ := h
  obtain ⟨v, ps, hr, hv⟩ := h1.look_ok law23 Try.underlying47 (zero9 w) zd9 (key_of hk)
  rw [got (h4 k hk).2 hv, (h4 k hk).1] at hr
  exact hr
theorem MapN.look {w : World} {b m : Nat} {x : Nd} (h : MapN w b m x) {k : Int} (hk : (Lit.int .u64 k).wf = true) :
    (Instr.lookup 47 (.map (some b)) (.int .u64 k) false).run Try.prog w = .ok (.string (lookN x k)) w := by
  obtain ⟨D, h1, h2, h3, h4⟩ := h
  obtain ⟨v, ps, hr, hv⟩ := h1.lookup law23 Try.underlying47 (zero9 w) zd9 (key_of hk)
  rw [got (h4 k hk).2 hv] at hr
  exact hr
theorem MapN.len {w : World} {b m : Nat} {x : Nd} (h : MapN w b m x) (ty : TypeId) :
    (Builtin.len_ #[47] ty #[.map (some b)]).run Try.prog w = .ok (.int .i64 x.keys.length) w := by
  obtain ⟨D, h1, h2, h3, h4⟩ := h
  rw [← h3]
  exact h1.len Try.underlying47 ty
theorem put_len {x : Nd} {n : Nat} (h : LeafOk x n) (key : Int) (v : ByteArray) : (putF x key v).keys.length = if isAt x.keys key = true then x.keys.length else x.keys.length + 1 := by
  have e1 := laidF_size x.keys [key] (A.place x.keys key) (goneF (isAt x.keys key)) (h.place key)
  simp only [List.length_singleton] at e1
  rw [putF, if_pos h.leaf]
  show (laidF _ _ _ _).length = _
  cases e : isAt x.keys key with
  | true => rw [e] at e1; rw [if_pos rfl]; simp only [goneF, if_true] at e1 ⊢; omega
  | false => rw [e] at e1; rw [if_neg (by simp)]; simp [goneF] at e1 ⊢; omega
theorem MapN.put {w : World} {b m n : Nat} {x : Nd} (h : MapN w b m x) (ho : LeafOk x n) {k : Int} (hk : (Lit.int .u64 k).wf = true) (s : ByteArray) (hs : s.size ≤ 40) (hm : m ≤ 1000) :
    ∃ w', (Instr.mapUpdate 47 (.map (some b)) (.int .u64 k) (.string s)).run Try.prog w = .ok () w' ∧ MapN w' b (m + 1) (putF x k s) ∧ w.grownBy w' (some b) ∧ w'.heap.size = w.heap.size := by
  obtain ⟨D, h1, h2, h3, h4⟩ := h
  obtain ⟨w', hr, hown, ht⟩ := h1.store law23 Try.underlying47 (by unfold maxLen; omega) (key_of hk) (plainElem_string Try.underlying9 (by unfold maxLen; omega) : plainElem (H := Unit) Try.prog 9 (.string s) = _)
  have hkl : WideAt.IsKeyLit (.int .u64 k) := trivial
  refine ⟨w', hr, ⟨_, hown, h2.put hkl _, ?_, fun j hj => ?_⟩, ht.grown, ?_⟩
  · rw [size_put h2, (h4 k hk).1, h3, put_len ho]
  · rw [mem_put ho, look_put ho]
    by_cases e : k = j
    · subst e
      refine ⟨by rw [has_put_same h2.isMap hkl]; simp, fun z => ?_⟩
      rw [atKey_put_same h2.isMap hkl]
      simp
    · have hne : (Lit.int .u64 j) ≠ Lit.int .u64 k := fun h => by injection h with _ h; exact e h.symm
      refine ⟨by rw [has_put_other hne, (h4 j hj).1]; simp [e], fun z => ?_⟩
      rw [atKey_put_other hne, (h4 j hj).2]
      simp [e]
  · obtain ⟨es, clock, es', clock', _, rfl⟩ := ht
    simp [Go.ChangeMaps.setBlock]
theorem mapskip_ {P : Program} {o : Oper} {a : Act} {w w' : World} {m x v : Operand} {t : TypeId} {mv key val : Value} (hop : o.op = Op.mapUpdate t m x v) (hm : a.eval m = mv) (hx : a.eval x = key) (hv : a.eval v = val)
    (hrun : (Instr.mapUpdate t mv key val).run P w = .ok () w') : (execOp a.eval o).run P w = .ok .skip w' := by
  unfold execOp
  simp [hop, hm, hx, hv, hrun, Result.andThen]
theorem maplook_ {P : Program} {o : Oper} {a : Act} {w : World} {m x : Operand} {t : TypeId} {mv key val : Value} {c : Bool} (hop : o.op = Op.lookup t m x c) (hm : a.eval m = mv) (hx : a.eval x = key)
    (hrun : (Instr.lookup t mv key c).run P w = .ok val w) : (execOp a.eval o).run P w = .ok (.value val) w := by
  unfold execOp
  simp [hop, hm, hx, hrun, Result.andThen]
theorem maplen_ {P : Program} {o : Oper} {a : Act} {w : World} {m : Operand} {t : TypeId} {mv val : Value} (hop : o.op = Op.call { callee := Callee.builtin Builtin.len, args := #[m], argTypes := #[t] }) (hm : a.eval m = mv)
    (hrun : (Builtin.len_ #[t] o.type #[mv]).run P w = .ok val w) : (execOp a.eval o).run P w = .ok (.value val) w := by
  unfold execOp
  simp [hop, resolve, invoke, builtin, hm, hrun, Result.andThen]
end Go.Proofs.Ytnghbfegijnolaa.A
