/- A pattern without stars matches itself alone; stars match as many parts: the plain law, of texts of at most 1048576 bytes. -/
import Derived.Test.YtipfiodeakapdaaDoorB9
import Derived.Test.YtipfiodeakapdaaDoorOx5
namespace Go.Proofs.YtipfiodeakapdaaDoor.Pure
set_option linter.unusedVariables false
set_option linter.unusedSimpArgs false
open Go.RowKit Go.Proofs.YtipfiodeakapdaaDoor.R Go.Proofs.YtipfiodeakapdaaDoorW.PrintWords Go.Proofs.YtipfiodeakapdaaDoorW.PrintLast Go.Proofs.YtipfiodeakapdaaDoorW.PrintMore
theorem eqF_star (p l : List ByteArray) : ∀ j i, (∀ x, i ≤ x → x < i + j → (p.getD x ByteArray.empty).toList = [42]) → eqF p l j i = true
  | 0, i, h => rfl
  | j + 1, i, h => by
    rw [eqF, h i (Nat.le_refl _) (by omega), eqF_star p l j (i + 1) (fun x h1 h2 => h x (by omega) (by omega))]
    rfl
theorem eqF_iff (p l : List ByteArray) : ∀ j i, (∀ x, i ≤ x → x < i + j → (p.getD x ByteArray.empty).toList ≠ [42]) → (eqF p l j i = true ↔ ∀ x, i ≤ x → x < i + j → (p.getD x ByteArray.empty).toList = (l.getD x ByteArray.empty).toList)
  | 0, i, h => ⟨fun _ x h1 h2 => by omega, fun _ => rfl⟩
  | j + 1, i, h => by
    have ih := eqF_iff p l j (i + 1) (fun x h1 h2 => h x (by omega) (by omega))
    rw [eqF, beq_eq_false_iff_ne.2 (h i (Nat.le_refl _) (by omega)), Bool.false_or, Bool.and_eq_true, beq_iff_eq, ih]
    constructor
    · rintro ⟨h1, h2⟩ x h3 h4
      by_cases hx : x = i
      · rw [hx]; exact h1
      · exact h2 x (by omega) (by omega)
    · intro h1
      exact ⟨h1 i (Nat.le_refl _) (by omega), fun x h3 h4 => h1 x (by omega) (by omega)⟩
theorem map_getD (r : List (List UInt8)) (i : Nat) (h : i < r.length) : ((r.map bs).getD i ByteArray.empty).toList = r[i] := by
  simp [h, bs_list]
/-! ### a pattern of stars -/
def st (m : Nat) : List (List UInt8) := List.replicate m [42]
theorem st_len (m : Nat) : (st m).length = m := List.length_replicate
theorem st_free (m : Nat) : ∀ x ∈ st m, (46 : UInt8) ∉ x := fun x hx => by rw [List.eq_of_mem_replicate hx]; decide
theorem st_at (m i : Nat) (h : i < m) : (((st m).map bs).getD i ByteArray.empty).toList = [42] := by
  rw [map_getD _ _ (by rw [st_len]; exact h)]
  simp [st]
theorem st_snoc (m : Nat) : st (m + 1) = st m ++ [[42]] := List.replicate_succ'
theorem mB_st (m : Nat) (h : 1 ≤ m) (l : List ByteArray) : mB ((st m).map bs) l = decide (m = l.length) := by
  have hl : ((st m).map bs).length = m := by rw [List.length_map, st_len]
  rw [mB, hl, st_at m (m - 1) (by omega), if_neg (by decide)]
  by_cases e : m = l.length
  · rw [if_pos e, decide_eq_true e]
    exact eqF_star _ _ _ _ (fun x _ h2 => st_at m x (by omega))
  · rw [if_neg e, decide_eq_false e]
theorem mB_more (m : Nat) (l : List ByteArray) : mB ((st m ++ [[42, 42]]).map bs) l = decide (l.length > m) := by
  have hl : ((st m ++ [[42, 42]]).map bs).length = m + 1 := by rw [List.length_map, List.length_append, st_len]; rfl
  have hlast : (((st m ++ [[42, 42]]).map bs).getD m ByteArray.empty).toList = [42, 42] := by
    rw [map_getD _ _ (by rw [List.length_append, st_len]; simp)]
    rw [List.getElem_append_right (by rw [st_len]; exact Nat.le_refl _)]
    simp [st_len]
  rw [mB, hl, Nat.add_sub_cancel, hlast, if_pos rfl]
  by_cases e : l.length ≤ m
  · rw [if_pos e, decide_eq_false (by omega)]
  · rw [if_neg e, decide_eq_true (by omega)]
    refine eqF_star _ _ _ _ (fun x _ h2 => ?_)
    have hx : x < m := by omega
    rw [map_getD _ _ (by rw [List.length_append, st_len]; simp; omega), List.getElem_append_left (by rw [st_len]; exact hx)]
    simp [st]
def starry (r : List (List UInt8)) : Bool := r.any fun x => x == [42] || x == [42, 42]
theorem mB_plain (L T : List UInt8) (h : starry (sp L) = false) : mB (parts (bs L)) (parts (bs T)) = ((bs L).toList == (bs T).toList) := by
  rw [parts_bs, parts_bs, bs_list, bs_list]
  have hall : ∀ (i : Nat) (hi : i < (sp L).length), (sp L)[i] ≠ [42] ∧ (sp L)[i] ≠ [42, 42] := fun i hi => by
    have := List.any_eq_false.1 h _ (List.getElem_mem hi)
    simpa using this
  have hn := List.length_pos_iff.2 (sp_ne L)
  have hl : ((sp L).map bs).length = (sp L).length := List.length_map ..
  have hm : ((sp T).map bs).length = (sp T).length := List.length_map ..
  rw [mB, hl, hm, map_getD _ _ (by omega), if_neg (hall _ (by omega)).2]
  by_cases e : (sp L).length = (sp T).length
  · rw [if_pos e]
    have hi := eqF_iff ((sp L).map bs) ((sp T).map bs) (sp L).length 0 (fun x _ h2 => by rw [map_getD _ _ (by omega)]; exact (hall x (by omega)).1)
    by_cases hLT : L = T
    · rw [beq_iff_eq.2 hLT]
      exact hi.2 (fun x _ _ => by rw [hLT])
    · rw [beq_eq_false_iff_ne.2 hLT]
      cases hq : eqF ((sp L).map bs) ((sp T).map bs) (sp L).length 0
      · rfl
      · exfalso
        refine hLT (sp_inj (List.ext_getElem e (fun x h1 h2 => ?_)))
        have := hi.1 hq x (Nat.zero_le _) (by omega)
        rw [map_getD _ _ h1, map_getD _ _ h2] at this
        exact this
  · rw [if_neg e, beq_eq_false_iff_ne.2 (fun hLT => e (by rw [hLT]))]
theorem st_jn_len : ∀ m, (jn (st m)).length ≤ 2 * m
  | 0 => Nat.le_refl _
  | 1 => by decide
  | m + 2 => by
    have ih := st_jn_len (m + 1)
    rw [show st (m + 2) = [42] :: st (m + 1) from rfl, jn_cons _ _ (by simp [st])]
    simp only [List.length_append, List.length_cons, List.length_nil]
    omega
theorem stars_end (k : Nat) (hk : 2000000 ≤ k) (L T : List UInt8) (hL : L.length ≤ 40) (hT : T.length ≤ 1048576) (x7 : Bool) (h7 : x7 = starry (sp L)) :
    O.bailiwicklaw02_LabelStars.l0 (k + 1) (bs L) (bs T) true ((sp L).map bs) x7 (bs (jn (st (sp L).length))) ((sp L).length : Int) = some true := by
  have hl : ((sp L).map bs).length = (sp L).length := List.length_map ..
  have hn := List.length_pos_iff.2 (sp_ne L)
  have hc : (sp L).length ≤ 41 := by
    have h1 := sp_count L
    have h2 : L.count 46 ≤ L.length := List.count_le_length
    omega
  have hs : (bs (jn (st (sp L).length))).size ≤ 82 := by
    rw [bs_size]
    have := st_jn_len (sp L).length
    omega
  have hz : (bs T).size ≤ 1048576 := by rw [bs_size]; exact hT
  have hzL : (bs L).size ≤ 40 := by rw [bs_size]; exact hL
  have pS : parts (bs (jn (st (sp L).length))) = (st (sp L).length).map bs := by rw [parts_bs, sp_jn _ (by intro e; have := congrArg List.length e; rw [st_len, List.length_nil] at this; omega) (st_free _)]
  have eM : bs (jn (st (sp L).length)) ++ (⟨#[46, 42, 42]⟩ : ByteArray) = bs (jn (st (sp L).length ++ [[42, 42]])) := by
    rw [jn_snoc _ _ (by intro e; have := congrArg List.length e; rw [st_len, List.length_nil] at this; omega)]
    exact bs_append _ [46, 42, 42]
  have pM : parts (bs (jn (st (sp L).length)) ++ (⟨#[46, 42, 42]⟩ : ByteArray)) = (st (sp L).length ++ [[42, 42]]).map bs := by
    rw [eM, parts_bs, sp_jn _ (by simp) (fun x hx => by
      rcases List.mem_append.1 hx with hx | hx
      · exact st_free _ x hx
      · rw [List.mem_singleton.1 hx]; decide)]
  have mlen : ∀ a : ByteArray, a.size ≤ 100 → (parts a).length + 1 < k := fun a ha => by have := parts_le a; omega
  have m1 : O.label_Match.f k (bs (jn (st (sp L).length))) (bs T) = some (decide ((sp L).length = (parts (bs T)).length)) := by
    rw [match_eq k _ _ (by omega) (by omega) (mlen _ (by omega)), pS, mB_st _ (by omega)]
  have zM : (bs (jn (st (sp L).length)) ++ (⟨#[46, 42, 42]⟩ : ByteArray)).size ≤ 100 := by rw [ByteArray.size_append]; show _ + 3 ≤ _; omega
  have m2 : O.label_Match.f k (bs (jn (st (sp L).length)) ++ (⟨#[46, 42, 42]⟩ : ByteArray)) (bs T) = some (decide ((parts (bs T)).length > (sp L).length)) := by
    rw [match_eq k _ _ (by omega) (by omega) (mlen _ zM), pM, mB_more]
  have m3 : O.label_Match.f k (bs (jn (st (sp L).length))) (bs L) = some true := by
    rw [match_eq k _ _ (by omega) (by omega) (mlen _ (by omega)), pS, mB_st _ (by omega), parts_bs, hl, decide_eq_true rfl]
  have c1 : (decide ((sp L).length = (parts (bs T)).length) == (((parts (bs T)).length : Int) == (((sp L).map bs).length : Int))) = true := by
    rw [hl, beq_iff_eq]
    by_cases e : (sp L).length = (parts (bs T)).length
    · rw [decide_eq_true e, e]; simp
    · rw [decide_eq_false e, beq_eq_false_iff_ne.2 (by omega)]
  have c2 : (decide ((parts (bs T)).length > (sp L).length) == (decide (((parts (bs T)).length : Int) > (((sp L).map bs).length : Int)))) = true := by
    rw [hl, beq_iff_eq]
    exact decide_eq_decide.2 (by omega)
  rw [O.bailiwicklaw02_LabelStars.l0, if_neg (by omega), Parts_val (bs T) (by omega), Option.bind_some]
  cases hx : x7
  · rw [if_neg (by decide), match_eq k _ _ (by omega) (by omega) (mlen _ (by omega)), Option.bind_some, if_pos rfl, mB_plain L T (by rw [← h7, hx]), if_pos (by simp), m1, Option.bind_some, if_pos c1, if_pos (by omega), m2, Option.bind_some, if_pos c2, m3]
    rfl
  · rw [if_pos rfl, if_pos rfl, m1, Option.bind_some, if_pos c1, if_pos (by omega), m2, Option.bind_some, if_pos c2, m3]
    rfl
theorem stars_loop (k : Nat) (hk : 2000000 ≤ k) (L T : List UInt8) (hL : L.length ≤ 40) (hT : T.length ≤ 1048576) : ∀ j i x7, i + j = (sp L).length → x7 = starry ((sp L).take i) →
    O.bailiwicklaw02_LabelStars.l0 (k + 1 + j) (bs L) (bs T) true ((sp L).map bs) x7 (bs (jn (st i))) (i : Int) = some true
  | 0, i, x7, e, h7 => by
    have hi : i = (sp L).length := by omega
    subst hi
    rw [List.take_length] at h7
    exact stars_end k hk L T hL hT x7 h7
  | j + 1, i, x7, e, h7 => by
    have hl : ((sp L).map bs).length = (sp L).length := List.length_map ..
    have hi : i < (sp L).length := by omega
    have hc : (sp L).length ≤ 41 := by
      have h1 := sp_count L
      have h2 : L.count 46 ≤ L.length := List.count_le_length
      omega
    have hs : (bs (jn (st i))).size ≤ 82 := by
      rw [bs_size]
      have := st_jn_len i
      omega
    have n1 : wrap64 ((i : Int) + 1) = ((i + 1 : Nat) : Int) := by rw [w64 _ (by omega) (by omega)]; omega
    have ht : (sp L).take (i + 1) = (sp L).take i ++ [(sp L)[i]] := List.take_succ_eq_append_getElem hi
    have hr : (rdOf ByteArray.empty ((sp L).map bs) (i : Int)).toList = (sp L)[i] := by rw [rdOf_nat, map_getD _ _ hi]
    have hst : starry ((sp L).take (i + 1)) = (x7 || ((sp L)[i] == [42] || (sp L)[i] == [42, 42])) := by
      rw [ht, starry, List.any_append, h7]
      simp [starry]
    have e46 : bs (jn (st i)) ++ (⟨#[46]⟩ : ByteArray) = bs (jn (st i) ++ [46]) := bs_append _ [46]
    have s46 : (bs (jn (st i)) ++ (⟨#[46]⟩ : ByteArray)).size ≤ 83 := by rw [ByteArray.size_append]; show _ + 1 ≤ _; omega
    have a1 : ¬ i = 0 → (bs (jn (st i)) ++ (⟨#[46]⟩ : ByteArray)) ++ (⟨#[42]⟩ : ByteArray) = bs (jn (st (i + 1))) := fun h => by
      rw [e46, st_snoc, jn_snoc _ _ (by intro e; have := congrArg List.length e; rw [st_len, List.length_nil] at this; omega)]
      refine (bs_append _ [42]).trans ?_
      simp
    have a0 : i = 0 → bs (jn (st i)) ++ (⟨#[42]⟩ : ByteArray) = bs (jn (st (i + 1))) := fun h => by subst h; rfl
    have step : ∀ x : Bool, x = starry ((sp L).take (i + 1)) → (if (i : Int) > 0 then (if (bs (jn (st i))).size + 1 ≤ 9223372036854775807 then (if (bs (jn (st i)) ++ (⟨#[46]⟩ : ByteArray)).size + 1 ≤ 9223372036854775807 then (O.bailiwicklaw02_LabelStars.l0 (k + 1 + j) (bs L) (bs T) true ((sp L).map bs) x ((bs (jn (st i)) ++ (⟨#[46]⟩ : ByteArray)) ++ (⟨#[42]⟩ : ByteArray)) (wrap64 ((i : Int) + 1))) else (none)) else (none)) else (if (bs (jn (st i))).size + 1 ≤ 9223372036854775807 then (O.bailiwicklaw02_LabelStars.l0 (k + 1 + j) (bs L) (bs T) true ((sp L).map bs) x (bs (jn (st i)) ++ (⟨#[42]⟩ : ByteArray)) (wrap64 ((i : Int) + 1))) else (none))) = some true := fun x hx => by
      have ih := stars_loop k hk L T hL hT j (i + 1) x (by omega) hx
      by_cases h0 : i = 0
      · rw [if_neg (by omega), if_pos (by omega), a0 h0, n1]; exact ih
      · rw [if_pos (by omega), if_pos (by omega), if_pos (by omega), a1 h0, n1]; exact ih
    rw [show k + 1 + (j + 1) = (k + 1 + j) + 1 by omega, O.bailiwicklaw02_LabelStars.l0, if_pos (by omega)]
    cases hx : x7
    · rw [if_neg (by decide), if_pos (by omega), hr]
      rw [hx, Bool.false_or] at hst
      by_cases h1 : (sp L)[i] = [42]
      · rw [if_pos h1]
        exact step true (by rw [hst, h1]; rfl)
      · rw [if_neg h1]
        exact step _ (by rw [hst, beq_eq_false_iff_ne.2 h1, Bool.false_or])
    · rw [if_pos rfl]
      exact step true (by rw [hst, hx]; rfl)
theorem LabelStars_upto (a0 a1 : ByteArray) (h0 : a0.size ≤ 1048576) (h1 : a1.size ≤ 1048576) : ∃ k, O.bailiwicklaw02_LabelStars.f k a0 a1 = some true := by
  have hm : 0 ≤ mn (a0.size : Int) 40 ∧ mn (a0.size : Int) 40 ≤ (a0.size : Int) ∧ mn (a0.size : Int) 40 ≤ 40 := by unfold mn; split <;> omega
  have hz : (a0.extract 0 (mn (a0.size : Int) 40).toNat).size ≤ 40 := by rw [ByteArray.size_extract]; omega
  have hT : a1.data.toList.length ≤ 1048576 := by rw [Array.length_toList]; exact h1
  generalize hb : a0.extract 0 (mn (a0.size : Int) 40).toNat = b at *
  have hL : b.data.toList.length ≤ 40 := by rw [Array.length_toList]; exact hz
  have h := stars_loop 2000000 (Nat.le_refl _) b.data.toList a1.data.toList hL hT (sp b.data.toList).length 0 false (by omega) rfl
  rw [bs_of, bs_of] at h
  refine ⟨2000000 + 1 + (sp b.data.toList).length, ?_⟩
  rw [O.bailiwicklaw02_LabelStars.f, ex_le _ (by omega), Option.bind_some, if_pos rfl, if_pos hm.1, if_pos hm.2.1, hb, Parts_val b (by omega), Option.bind_some, parts_sp]
  exact h
end Go.Proofs.YtipfiodeakapdaaDoor.Pure
