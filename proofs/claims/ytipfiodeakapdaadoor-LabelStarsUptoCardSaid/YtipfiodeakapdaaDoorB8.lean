/-
  A text's parts: split at each point, put together again; and the walk of a pattern over them.
-/
import Derived.Test.YtipfiodeakapdaaDoorB7
import Derived.Test.YtipfiodeakapdaaDoorOx3
namespace Go.Proofs.YtipfiodeakapdaaDoor.R
set_option linter.unusedVariables false
set_option linter.unusedSimpArgs false
open Go.RowKit Go.Proofs.YtipfiodeakapdaaDoorW.PrintWords Go.Proofs.YtipfiodeakapdaaDoorW.PrintLast Go.Proofs.YtipfiodeakapdaaDoorW.PrintMore
def glue (pre : List UInt8) : List (List UInt8) → List (List UInt8)
  | [] => [pre]
  | h :: t => (pre ++ h) :: t
def sp : List UInt8 → List (List UInt8)
  | [] => [[]]
  | c :: l => if c = 46 then [] :: sp l else glue [c] (sp l)
theorem glue_len (pre : List UInt8) (x : List (List UInt8)) (h : x ≠ []) : (glue pre x).length = x.length := by
  cases x with
  | nil => exact absurd rfl h
  | cons a t => rfl
theorem glue_ne (pre : List UInt8) (x : List (List UInt8)) : glue pre x ≠ [] := by cases x <;> simp [glue]
theorem sp_ne : ∀ l, sp l ≠ []
  | [] => by simp [sp]
  | c :: l => by
    unfold sp
    split
    · simp
    · exact glue_ne _ _
theorem glue_glue (a b : List UInt8) (x : List (List UInt8)) (h : x ≠ []) : glue a (glue b x) = glue (a ++ b) x := by
  cases x with
  | nil => exact absurd rfl h
  | cons y t => simp [glue]
theorem glue_nil (x : List (List UInt8)) (h : x ≠ []) : glue [] x = x := by
  cases x with
  | nil => exact absurd rfl h
  | cons y t => rfl
theorem index_cons (c : UInt8) (l : List UInt8) : Lib.index (c :: l) [46] = if c = 46 then 0 else if Lib.index l [46] == -1 then -1 else Lib.index l [46] + 1 := by
  rw [Lib.index]
  by_cases h : c = 46
  · subst h; rfl
  · have : ([46] : List UInt8).isPrefixOf (c :: l) = false := by simp [List.isPrefixOf, Ne.symm h]
    rw [this, if_neg (by decide), if_neg h]
theorem splitK_sp : ∀ l : List UInt8, Lib.splitK [46] 0 (Lib.count l [46]) l = sp l
  | [] => rfl
  | c :: l => by
    have ih := splitK_sp l
    by_cases h : c = 46
    · subst h
      rw [Lib.count_cons_eq, Nat.add_comm, Lib.splitK, index_cons, if_pos rfl, if_neg (by decide)]
      rw [sp, if_pos rfl]
      show [] :: Lib.splitK [46] 0 (Lib.count l [46]) l = _
      rw [ih]
    · rw [Lib.count_cons_ne c 46 l h, sp, if_neg h, ← ih]
      cases hk : Lib.count l [46] with
      | zero => rfl
      | succ k =>
        rw [Lib.splitK, Lib.splitK, index_cons, if_neg h]
        by_cases hm : Lib.index l [46] == -1
        · rw [if_pos hm, if_pos (by decide), if_pos hm]; rfl
        · rw [if_neg hm, if_neg hm]
          have hn := Lib.index_ge l [46]
          obtain ⟨j, hj⟩ : ∃ j : Nat, Lib.index l [46] = j := ⟨(Lib.index l [46]).toNat, by
            have : Lib.index l [46] ≠ -1 := fun e => hm (by rw [e]; rfl)
            omega⟩
          rw [hj, if_neg (by
            intro e
            have := beq_iff_eq.1 e
            omega)]
          have e1 : ((j : Int) + 1).toNat = j + 1 := by omega
          have e2 : ((j : Int)).toNat = j := by omega
          rw [e1, e2]
          rfl
theorem parts_sp (s : ByteArray) : parts s = (sp s.data.toList).map bs := by
  have h := Lib.splitB_data dotB 0 (Lib.countB s dotB) s
  have e : (parts s).map (·.data.toList) = sp s.data.toList := h.trans (splitK_sp s.data.toList)
  rw [← e, List.map_map]
  exact ((List.map_congr_left (fun x _ => bs_of x)).trans (List.map_id _)).symm
theorem parts_bs (l : List UInt8) : parts (bs l) = (sp l).map bs := parts_sp (bs l)
/-! ### together again -/
def jn : List (List UInt8) → List UInt8
  | [] => []
  | [x] => x
  | x :: y :: r => x ++ 46 :: jn (y :: r)
theorem jn_cons (x : List UInt8) (r : List (List UInt8)) (h : r ≠ []) : jn (x :: r) = x ++ 46 :: jn r := by
  cases r with
  | nil => exact absurd rfl h
  | cons y r => rfl
theorem jn_glue (c : UInt8) (x : List (List UInt8)) (h : x ≠ []) : jn (glue [c] x) = c :: jn x := by
  match x, h with
  | [y], _ => rfl
  | y :: z :: r, _ => rfl
theorem jn_sp : ∀ l, jn (sp l) = l
  | [] => rfl
  | c :: l => by
    unfold sp
    by_cases h : c = 46
    · rw [if_pos h, jn_cons _ _ (sp_ne l), jn_sp l, h]; rfl
    · rw [if_neg h, jn_glue c _ (sp_ne l), jn_sp l]
theorem sp_inj {l m : List UInt8} (h : sp l = sp m) : l = m := by rw [← jn_sp l, h, jn_sp]
theorem sp_free : ∀ l, ∀ x ∈ sp l, (46 : UInt8) ∉ x
  | [], x, h => by
    rw [sp, List.mem_singleton] at h
    rw [h]; simp
  | c :: l, x, h => by
    unfold sp at h
    by_cases hc : c = 46
    · rw [if_pos hc] at h
      rcases List.mem_cons.1 h with rfl | h
      · simp
      · exact sp_free l x h
    · rw [if_neg hc] at h
      have ih := sp_free l
      cases hs : sp l with
      | nil => exact absurd hs (sp_ne l)
      | cons y t =>
        rw [hs, glue] at h
        rw [hs] at ih
        rcases List.mem_cons.1 h with rfl | h
        · have := ih y List.mem_cons_self
          simp [this, Ne.symm hc]
        · exact ih x (List.mem_cons_of_mem _ h)
theorem sp_app (x m : List UInt8) (hx : (46 : UInt8) ∉ x) : sp (x ++ 46 :: m) = x :: sp m := by
  induction x with
  | nil => rw [List.nil_append, sp, if_pos rfl]
  | cons c x ih =>
    have hc : ¬ c = 46 := fun e => hx (by rw [e]; exact List.mem_cons_self)
    rw [List.cons_append, sp, if_neg hc, ih (fun h => hx (List.mem_cons_of_mem _ h))]
    rfl
theorem sp_one (x : List UInt8) (hx : (46 : UInt8) ∉ x) : sp x = [x] := by
  induction x with
  | nil => rfl
  | cons c x ih =>
    have hc : ¬ c = 46 := fun e => hx (by rw [e]; exact List.mem_cons_self)
    rw [sp, if_neg hc, ih (fun h => hx (List.mem_cons_of_mem _ h))]
    rfl
theorem sp_jn : ∀ r : List (List UInt8), r ≠ [] → (∀ x ∈ r, (46 : UInt8) ∉ x) → sp (jn r) = r
  | [], h, _ => absurd rfl h
  | [x], _, hx => sp_one x (hx x List.mem_cons_self)
  | x :: y :: r, _, hx => by
    rw [jn_cons _ _ (by simp), sp_app _ _ (hx x List.mem_cons_self), sp_jn (y :: r) (by simp) (fun z hz => hx z (List.mem_cons_of_mem _ hz))]
theorem sp_count : ∀ l : List UInt8, (sp l).length = l.count 46 + 1
  | [] => rfl
  | c :: l => by
    unfold sp
    by_cases h : c = 46
    · rw [if_pos h, List.length_cons, sp_count l, h, List.count_cons_self]
    · rw [if_neg h, glue_len _ _ (sp_ne l), sp_count l, List.count_cons_of_ne h]
/-! ### a pattern -/
def eqF (p l : List ByteArray) : Nat → Nat → Bool
  | 0, _ => true
  | j + 1, i => (((p.getD i ByteArray.empty).toList == [42]) || ((p.getD i ByteArray.empty).toList == (l.getD i ByteArray.empty).toList)) && eqF p l j (i + 1)
def mB (p l : List ByteArray) : Bool :=
  if (p.getD (p.length - 1) ByteArray.empty).toList = [42, 42] then (if l.length ≤ p.length - 1 then false else eqF p l (p.length - 1) 0) else (if p.length = l.length then eqF p l p.length 0 else false)
theorem rdOf_nat (p : List ByteArray) (i : Nat) : rdOf ByteArray.empty p (i : Int) = p.getD i ByteArray.empty := rfl
theorem m_l0 (p l P L : List ByteArray) (n : Nat) (hn : n ≤ 1000000000) (hp : p.length = n) (hl : l.length = n) (hP : ∀ i, i < n → p.getD i ByteArray.empty = P.getD i ByteArray.empty) (hL : ∀ i, i < n → l.getD i ByteArray.empty = L.getD i ByteArray.empty) : ∀ k j i, i + j = n → j < k → O.label_Match.l0 k l p (n : Int) (i : Int) = some (eqF P L j i)
  | 0, j, i, e, h => by omega
  | k + 1, 0, i, e, h => by rw [O.label_Match.l0, if_neg (by omega)]; rfl
  | k + 1, j + 1, i, e, h => by
    have ih := m_l0 p l P L n hn hp hl hP hL k j (i + 1) (by omega) (by omega)
    have n1 : wrap64 ((i : Int) + 1) = ((i + 1 : Nat) : Int) := by rw [w64 _ (by omega) (by omega)]; omega
    rw [O.label_Match.l0, if_pos (by omega), if_pos (by omega), if_pos (by omega), n1, ih, eqF, rdOf_nat, rdOf_nat, hP i (by omega), hL i (by omega)]
    by_cases h1 : (P.getD i ByteArray.empty).toList = [42]
    · rw [if_pos h1, h1]; rfl
    · rw [if_neg h1, if_pos (by omega), beq_eq_false_iff_ne.2 h1, Bool.false_or]
      by_cases h2 : (P.getD i ByteArray.empty).toList = (L.getD i ByteArray.empty).toList
      · rw [if_pos h2, beq_iff_eq.2 h2, Bool.true_and]
      · rw [if_neg h2, beq_eq_false_iff_ne.2 h2, Bool.false_and]
theorem r_l0 (p l P L : List ByteArray) (n : Nat) (hn : n ≤ 1000000000) (hp : n ≤ p.length) (hl : l.length = n) (hP : ∀ i, i < n → p.getD i ByteArray.empty = P.getD i ByteArray.empty) (hL : ∀ i, i < n → l.getD i ByteArray.empty = L.getD i ByteArray.empty) : ∀ k j i, i + j = n → j < k → O.bailiwickref02_Match.l0 k p l (n : Int) (i : Int) = some (eqF P L j i)
  | 0, j, i, e, h => by omega
  | k + 1, 0, i, e, h => by rw [O.bailiwickref02_Match.l0, if_neg (by omega)]; rfl
  | k + 1, j + 1, i, e, h => by
    have ih := r_l0 p l P L n hn hp hl hP hL k j (i + 1) (by omega) (by omega)
    have n1 : wrap64 ((i : Int) + 1) = ((i + 1 : Nat) : Int) := by rw [w64 _ (by omega) (by omega)]; omega
    rw [O.bailiwickref02_Match.l0, if_pos (by omega), if_pos (by omega), if_pos (by omega), n1, ih, eqF, rdOf_nat, rdOf_nat, hP i (by omega), hL i (by omega)]
    by_cases h1 : (P.getD i ByteArray.empty).toList = [42]
    · rw [if_pos h1, h1]; rfl
    · rw [if_neg h1, if_pos (by omega), beq_eq_false_iff_ne.2 h1, Bool.false_or]
      by_cases h2 : (P.getD i ByteArray.empty).toList = (L.getD i ByteArray.empty).toList
      · rw [if_pos h2, beq_iff_eq.2 h2, Bool.true_and]
      · rw [if_neg h2, beq_eq_false_iff_ne.2 h2, Bool.false_and]
theorem take_getD (p : List ByteArray) (n i : Nat) (h : i < n) : (p.take n).getD i ByteArray.empty = p.getD i ByteArray.empty := by
  simp [List.getD_eq_getElem?_getD, List.getElem?_take, h]
theorem parts_pos (s : ByteArray) : 1 ≤ (parts s).length := by rw [parts_len]; omega
theorem Parts_val (s : ByteArray) (h : s.size ≤ 4000000000) : Parts.f s = some (parts s) := by rw [Parts.f, if_pos h]
theorem match_eq (k : Nat) (a b : ByteArray) (ha : a.size ≤ 100000000) (hb : b.size ≤ 100000000) (hk : (parts a).length + 1 < k) : O.label_Match.f k a b = some (mB (parts a) (parts b)) := by
  obtain ⟨k, rfl⟩ : ∃ j, k = j + 1 := ⟨k - 1, by omega⟩
  have la := parts_le a
  have lb := parts_le b
  have pa := parts_pos a
  have pb := parts_pos b
  rw [O.label_Match.f, Parts_val a (by omega), Option.bind_some, Parts_val b (by omega), Option.bind_some]
  generalize parts a = p at *
  generalize parts b = l at *
  have n1 : wrap64 ((p.length : Int) - 1) = ((p.length - 1 : Nat) : Int) := by rw [w64 _ (by omega) (by omega)]; omega
  rw [n1, if_pos (by omega), if_pos (by omega), rdOf_nat, mB, Int.toNat_natCast]
  by_cases h1 : (p.getD (p.length - 1) ByteArray.empty).toList = [42, 42]
  · rw [if_pos h1, if_pos h1]
    by_cases h2 : l.length ≤ p.length - 1
    · rw [if_pos (by omega), if_pos h2]
    · rw [if_neg (by omega), if_neg h2, if_pos (by omega), if_pos (by omega), O.label_Match.j0]
      have e1 : (p.take (p.length - 1)).length = p.length - 1 := by rw [List.length_take]; omega
      have e2 : (l.take (p.length - 1)).length = p.length - 1 := by rw [List.length_take]; omega
      rw [if_pos (by omega), e1]
      exact m_l0 _ _ p l (p.length - 1) (by omega) e1 e2 (fun i hi => take_getD p _ i hi) (fun i hi => take_getD l _ i hi) k (p.length - 1) 0 (by omega) (by omega)
  · rw [if_neg h1, if_neg h1, O.label_Match.j0]
    by_cases h2 : p.length = l.length
    · rw [if_pos (by omega), if_pos h2]
      exact m_l0 p l p l p.length (by omega) rfl h2.symm (fun _ _ => rfl) (fun _ _ => rfl) k p.length 0 (by omega) (by omega)
    · rw [if_neg (by omega), if_neg h2]
end Go.Proofs.YtipfiodeakapdaaDoor.R
