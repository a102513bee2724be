/-
  What DiskTwice's writes and crashes come to, in plain terms; numbers.
-/
import Derived.Test.YtnffhdlkkfphbaaDh
import Derived.Test.YtnffhdlkkfphbaaHx1
namespace Go.Proofs.Ytnffhdlkkfphbaa.D
set_option linter.unusedVariables false
set_option linter.unusedSimpArgs false
open Go.RowKit Go.Proofs.YtnffhdlkkfphbaaW.PrintWords Go.Proofs.YtnffhdlkkfphbaaW.PrintLast Go.Proofs.YtnffhdlkkfphbaaW.PrintMore
open Go.Lib (hid)
theorem numbers_loop : ∀ (g k : Nat) (l : List Int) (i : Nat), i + g = l.length → g < k → l.length ≤ 100000 → H.bailiwicklaw06_numbers.l0 k l l (i : Int) = some true
  | g, 0, l, i, h0, h1, h2 => by omega
  | 0, k + 1, l, i, h0, h1, h2 => by
    unfold H.bailiwicklaw06_numbers.l0
    rw [if_neg (by omega)]
  | g + 1, k + 1, l, i, h0, h1, h2 => by
    unfold H.bailiwicklaw06_numbers.l0
    rw [if_pos (by omega), if_pos (by omega), if_pos (by omega), if_pos rfl, show wrap64 ((i : Int) + 1) = ((i + 1 : Nat) : Int) by unfold wrap64; omega]
    exact numbers_loop g k l (i + 1) (by omega) (by omega) h2
theorem numbers_same (l : List Int) (h : l.length ≤ 100000) : H.bailiwicklaw06_numbers.f (l.length + 1) l l = some true := by
  unfold H.bailiwicklaw06_numbers.f
  rw [if_pos rfl]
  exact numbers_loop l.length (l.length + 1) l 0 (by omega) (by omega) h
theorem numbers.same (v1 v2 : Value) (l : List Int) (hl : l.length ≤ 100000) (e1 e2 B1 B2 : Nat) (o1 o2 : Nat → Prop) (w : World) (h1 : Kd.R (Kd.int .i64) e1 w B1 o1 v1 l) (h2 : Kd.R (Kd.int .i64) e2 w B2 o2 v2 l) :
    Calls Try.prog 29 #[v1, v2] w fun e w' => e = .returned (.bool true) ∧ Drawn0 w w' := by
  obtain ⟨A1, c1, rfl, hc1, hr1⟩ := Kd.R_reads h1
  obtain ⟨A2, c2, rfl, hc2, hr2⟩ := Kd.R_reads h2
  exact H.bailiwicklaw06_numbers.calls (l.length + 1) A1 c1 l A2 c2 l true w hr1 hc1 hr2 hc2 (numbers_same l hl)
theorem hasS_more (L : List (Int × ByteArray)) (k j : Int) (x : ByteArray) : hasS (L ++ [(k, x)]) j = (hasS L j || decide (k = j)) := by
  unfold hasS
  rw [List.find?_append]
  cases h : List.find? (fun p => p.1 == j) L with
  | some p => simp
  | none =>
    by_cases hk : k = j
    · simp [hk]
    · simp [hk, List.find?_cons]
theorem hasS_mem (L : List (Int × ByteArray)) (k : Int) (h : hasS L k = false) : ∀ p ∈ L, p.1 ≠ k := by
  intro p hp e
  unfold hasS at h
  have : (List.find? (fun p => p.1 == k) L).isSome = true := List.find?_isSome.2 ⟨p, hp, by simp [e]⟩
  rw [this] at h
  cases h
/-- A crash leaves what was not loose. -/
theorem crash_else (L : List (Int × ByteArray)) (ks : List Int) (now : List ByteArray) (hL : ∀ p ∈ L, 0 ≤ p.1 ∧ p.1 < now.length) (k : Nat) (hk : hasS L (k : Int) = false) :
    ∀ n, n ≤ L.length → (crashN L ks now n).getD k ⟨#[]⟩ = now.getD k ⟨#[]⟩
  | 0, _ => rfl
  | n + 1, h => by
    have ih := crash_else L ks now hL k hk n (by omega)
    unfold crashN
    split
    · have hm : L[n]'(by omega) ∈ L := List.getElem_mem _
      have h1 := hL _ hm
      have h2 := hasS_mem L _ hk _ hm
      have e : (L.map Prod.fst).getD n 0 = (L[n]'(by omega)).1 := by
        rw [List.getD_eq_getElem?_getD, List.getElem?_map, List.getElem?_eq_getElem (by omega)]
        rfl
      rw [e, getD_set_ _ _ _ _ _ (by rw [crash_len]; omega), if_neg (by omega)]
      exact ih
    · exact ih
structure PT (i : Nat) (st : St) (mt : List Bool) (ord : List Int) : Prop where
  len : st.now.length = 10
  fuse : st.fuse = -1
  gone : st.gone = false
  loose : st.loose.length ≤ i
  keys : st.loose.map (·.1) = ord
  mlen : mt.length = 10
  has : ∀ k : Nat, k < 10 → hasS st.loose (k : Int) = mt.getD k false
  old : ∀ k : Nat, k < 10 → mt.getD k false = false → st.now.getD k ⟨#[]⟩ = zeros
  rng : ∀ p ∈ st.loose, 0 ≤ p.1 ∧ p.1 < 10
theorem getB_set (l : List Bool) (i j : Nat) (x d : Bool) (h : i < l.length) : (l.set i x).getD j d = if i = j then x else l.getD j d := by
  simp only [List.getD_eq_getElem?_getD, List.getElem?_set, h]
  split <;> simp
theorem PT.write {i : Nat} {st : St} {mt : List Bool} {ord : List Int} (h : PT i st mt ord) (k : Nat) (hk : k < 10) (X : ByteArray) (hX : X.size = 256) :
    ∃ st', writes st (k : Int) X = (0, st') ∧ PT (i + 1) st' (mt.set k true) (if mt.getD k false then ord else ord ++ [(k : Int)]) := by
  refine ⟨_, writes_ok st (k : Int) X h.gone (by omega) (by rw [h.len]; omega) hX (by rw [h.fuse]; decide), ?_⟩
  rw [h.has k hk]
  have hl := h.loose
  refine ⟨?_, ?_, h.gone, ?_, ?_, by rw [List.length_set]; exact h.mlen, ?_, ?_, ?_⟩
  · show (st.now.set _ _).length = 10
    rw [List.length_set]; exact h.len
  · show max (-1) (st.fuse - 1) = -1
    rw [h.fuse]; decide
  · show (if _ then _ else _ : List (Int × ByteArray)).length ≤ i + 1
    split
    · omega
    · rw [List.length_append, List.length_singleton]; omega
  · show List.map _ (if _ then _ else _ : List (Int × ByteArray)) = _
    split
    · exact h.keys
    · rw [List.map_append, h.keys]; rfl
  · intro j hj
    show hasS (if _ then _ else _ : List (Int × ByteArray)) (j : Int) = _
    rw [getB_set _ _ _ _ _ (by rw [h.mlen]; omega)]
    cases hm : mt.getD k false with
    | true =>
      rw [if_pos rfl, h.has j hj]
      by_cases e : k = j
      · subst e; rw [if_pos rfl]; exact hm
      · rw [if_neg e]
    | false =>
      rw [if_neg (by decide), hasS_more, h.has j hj]
      by_cases e : k = j
      · subst e; rw [if_pos rfl, decide_eq_true rfl, Bool.or_true]
      · rw [if_neg e, decide_eq_false (by omega), Bool.or_false]
  · intro j hj hm
    show (st.now.set (k : Int).toNat X).getD j _ = _
    rw [getB_set _ _ _ _ _ (by rw [h.mlen]; omega)] at hm
    rw [Int.toNat_natCast, getD_set_ _ _ _ _ _ (by rw [h.len]; omega)]
    by_cases e : k = j
    · rw [if_pos e] at hm; cases hm
    · rw [if_neg e] at hm ⊢
      exact h.old j hj hm
  · intro p hp
    replace hp : p ∈ (if mt.getD k false = true then st.loose else st.loose ++ [((k : Int), st.now.getD (k : Int).toNat ⟨#[]⟩)]) := hp
    split at hp
    · exact h.rng p hp
    · rcases List.mem_append.1 hp with h1 | h1
      · exact h.rng p h1
      · rw [List.mem_singleton.1 h1]; exact ⟨by show (0 : Int) ≤ (k : Int); omega, by show (k : Int) < 10; omega⟩
theorem PT.crash {i : Nat} {st : St} {mt : List Bool} {ord : List Int} (h : PT i st mt ord) (ks : List Int) (k : Nat) (hk : k < 10) (hm : mt.getD k false = false) :
    (crashN st.loose ks st.now st.loose.length).getD k ⟨#[]⟩ = zeros := by
  rw [crash_else st.loose ks st.now (fun p hp => by have := h.rng p hp; rw [h.len]; omega) k (by rw [h.has k hk]; exact hm) _ (Nat.le_refl _)]
  exact h.old k hk hm
/-- An array of yeses and noes of the caller's. -/
def BoolsAt (w : World) (b t : Nat) (ms : List Bool) : Prop := w.heap[b]? = some (.cells (ms.map Value.bool).toArray t (0, 0))
theorem BoolsAt.set {w : World} {b t : Nat} {ms : List Bool} (h : BoolsAt w b t ms) (n : Nat) (y : Bool) : BoolsAt (w.setCell ⟨b, n, none⟩ (.bool y)) b t (ms.set n y) := by
  have := blk_set h n (.bool y)
  unfold BoolsAt
  rw [List.map_set]
  simpa using this
theorem BoolsAt.cell {w : World} {b t : Nat} {ms : List Bool} (h : BoolsAt w b t ms) (n : Nat) (hn : n < ms.length) : w.cell? ⟨b, n, none⟩ = some (.bool (ms.getD n false)) := (blk_cell h n).trans (by simp [hn])
theorem BoolsAt.kept {w w' : World} {b t : Nat} {ms : List Bool} (h : BoolsAt w b t ms) (hb : w'.heap[b]? = w.heap[b]?) : BoolsAt w' b t ms := hb.trans h
end Go.Proofs.Ytnffhdlkkfphbaa.D
