/- The parts, put together with points between, are the text: the plain law, of texts of at most 1048576 bytes. -/
import Derived.Test.YtipfiodeakapdaaDoorB9
import Derived.Test.YtipfiodeakapdaaDoorOx4
namespace Go.Proofs.YtipfiodeakapdaaDoor.Pure
set_option linter.unusedVariables false
set_option linter.unusedSimpArgs false
open Go.RowKit Go.Proofs.YtipfiodeakapdaaDoor.R Go.Proofs.YtipfiodeakapdaaDoorW.PrintWords Go.Proofs.YtipfiodeakapdaaDoorW.PrintLast
theorem pl2 (L : List UInt8) (hz : L.length ≤ 1048576) (ps : List ByteArray) (hp : ps.length = L.count 46 + 1) : ∀ j i k, i + j = L.length → j < k →
    O.bailiwicklaw02_LabelParts.l2 k (bs L) true ps (bs L) (((L.take i).count 46 : Nat) : Int) (i : Int) = some true
  | 0, i, 0, e, h => by omega
  | j + 1, i, 0, e, h => by omega
  | 0, i, k + 1, e, h => by
    have hs := bs_size L
    have hi : i = L.length := by omega
    have hc : L.count 46 ≤ L.length := List.count_le_length
    rw [O.bailiwicklaw02_LabelParts.l2, if_neg (by omega), if_pos rfl, if_pos rfl, hi, List.take_length, w64 _ (by omega) (by omega)]
    rw [beq_iff_eq.2 (by omega : (ps.length : Int) = (L.count 46 : Nat) + 1)]
  | j + 1, i, k + 1, e, h => by
    have hs := bs_size L
    have hi : i < L.length := by omega
    have hc : (L.take i).count 46 ≤ (L.take i).length := List.count_le_length
    rw [List.length_take] at hc
    have ih := pl2 L hz ps hp j (i + 1) k (by omega) (by omega)
    have n1 : wrap64 ((i : Int) + 1) = ((i + 1 : Nat) : Int) := by rw [w64 _ (by omega) (by omega)]; omega
    have hb : bt (bs L) (i : Int) = ((L[i]).toNat : Int) := bt_nat (bs L) i (by omega)
    have ht : L.take (i + 1) = L.take i ++ [L[i]] := List.take_succ_eq_append_getElem hi
    rw [O.bailiwicklaw02_LabelParts.l2, if_pos (by omega), if_pos (by omega), hb, n1]
    by_cases h46 : L[i] = 46
    · rw [h46] at ht ⊢
      rw [if_pos (by decide)]
      rw [ht, List.count_append] at ih
      rw [w64 _ (by omega) (by omega)]
      exact ih
    · have hne : ¬ ((L[i]).toNat : Int) = 46 := fun e => h46 (UInt8.toNat_inj.1 (by show L[i].toNat = 46; omega))
      rw [if_neg hne]
      rw [ht, List.count_append, List.count_singleton, if_neg (by simpa using h46), Nat.add_zero] at ih
      exact ih
theorem pl1 (x0 : ByteArray) (ps : List (List UInt8)) (acc : ByteArray) (i : Nat) (hi : i < ps.length) (hn : ps.length ≤ 2000000) (hf : (46 : UInt8) ∉ ps[i]) (hz : ps[i].length ≤ 2000000) (K : Nat)
    (H : ∀ k, K ≤ k → O.bailiwicklaw02_LabelParts.l0 k x0 true (ps.map bs) acc ((i + 1 : Nat) : Int) = some true) : ∀ j x, x + j = ps[i].length → ∀ k, K + j + 1 ≤ k →
    O.bailiwicklaw02_LabelParts.l1 k x0 true (ps.map bs) acc (i : Int) (x : Int) = some true := by
  have hr : rdOf ByteArray.empty (ps.map bs) (i : Int) = bs ps[i] := by
    rw [rdOf_nat]
    simp [hi]
  have hl : (ps.map bs).length = ps.length := List.length_map ..
  have hs := bs_size ps[i]
  have n1 : ∀ x : Nat, x ≤ 2000000 → wrap64 ((x : Int) + 1) = ((x + 1 : Nat) : Int) := fun x hx => by rw [w64 _ (by omega) (by omega)]; omega
  intro j
  induction j with
  | zero =>
    intro x e k hk
    obtain ⟨k, rfl⟩ : ∃ j, k = j + 1 := ⟨k - 1, by omega⟩
    rw [O.bailiwicklaw02_LabelParts.l1, if_pos (by omega), if_pos (by omega), hr, if_neg (by omega), n1 i (by omega)]
    exact H k (by omega)
  | succ j ih =>
    intro x e k hk
    obtain ⟨k, rfl⟩ : ∃ j, k = j + 1 := ⟨k - 1, by omega⟩
    have hx : x < ps[i].length := by omega
    have hb : bt (bs ps[i]) (x : Int) = ((ps[i][x]).toNat : Int) := bt_nat (bs ps[i]) x (by omega)
    have hne : ¬ ((ps[i][x]).toNat : Int) = 46 := fun e => hf (by
      have : ps[i][x] = 46 := UInt8.toNat_inj.1 (by show ps[i][x].toNat = 46; omega)
      rw [← this]
      exact List.getElem_mem hx)
    rw [O.bailiwicklaw02_LabelParts.l1, if_pos (by omega), if_pos (by omega), hr, if_pos (by omega), if_pos (by omega), hb, if_neg hne, n1 x (by omega)]
    exact ih (x + 1) (by omega) k (by omega)
theorem pl0 (L : List UInt8) (hz : L.length ≤ 1048576) : ∀ m i, i + m = (sp L).length → ∃ K, ∀ k, K ≤ k →
    O.bailiwicklaw02_LabelParts.l0 k (bs L) true ((sp L).map bs) (bs (jn ((sp L).take i))) (i : Int) = some true := by
  have hl : ((sp L).map bs).length = (sp L).length := List.length_map ..
  have hc := sp_count L
  have hcl : L.count 46 ≤ L.length := List.count_le_length
  intro m
  induction m with
  | zero =>
    intro i e
    refine ⟨L.length + 3, fun k hk => ?_⟩
    obtain ⟨k, rfl⟩ : ∃ j, k = j + 1 := ⟨k - 1, by omega⟩
    have hi : i = (sp L).length := by omega
    rw [O.bailiwicklaw02_LabelParts.l0, if_neg (by omega), hi, List.take_length, jn_sp]
    exact pl2 L hz _ (by rw [hl, hc]) L.length 0 k (by omega) (by omega)
  | succ m ih =>
    intro i e
    obtain ⟨K, H⟩ := ih (i + 1) (by omega)
    have hi : i < (sp L).length := by omega
    have h1 := jn_take_len (sp L) i
    have h2 := jn_mem_len (sp L) (sp L)[i] (List.getElem_mem hi)
    rw [jn_sp] at h1 h2
    have hr : rdOf ByteArray.empty ((sp L).map bs) (i : Int) = bs (sp L)[i] := by
      rw [rdOf_nat]
      simp [hi]
    have ht : (sp L).take (i + 1) = (sp L).take i ++ [(sp L)[i]] := List.take_succ_eq_append_getElem hi
    have s1 := bs_size (jn ((sp L).take i))
    have s2 := bs_size (sp L)[i]
    refine ⟨K + (sp L)[i].length + 4, fun k hk => ?_⟩
    obtain ⟨k, rfl⟩ : ∃ j, k = j + 2 := ⟨k - 2, by omega⟩
    have go1 : ∀ acc : ByteArray, acc.size ≤ 5000000 → acc ++ bs (sp L)[i] = bs (jn ((sp L).take (i + 1))) → O.bailiwicklaw02_LabelParts.j1 (k + 1) (bs L) true ((sp L).map bs) acc (i : Int) = some true := fun acc ha he => by
      rw [O.bailiwicklaw02_LabelParts.j1, if_pos (by omega), if_pos (by omega), hr, if_pos (by omega), he]
      exact pl1 (bs L) (sp L) _ i hi (by omega) (sp_free L _ (List.getElem_mem hi)) (by omega) K H (sp L)[i].length 0 (by omega) k (by omega)
    rw [O.bailiwicklaw02_LabelParts.l0, if_pos (by omega)]
    by_cases h0 : i = 0
    · rw [if_neg (by omega)]
      refine go1 _ (by omega) ?_
      subst h0
      rw [ht, List.take_zero, bs_append]
      rfl
    · rw [if_pos (by omega), if_pos (by omega)]
      have e46 : bs (jn ((sp L).take i)) ++ (⟨#[46]⟩ : ByteArray) = bs (jn ((sp L).take i) ++ [46]) := bs_append _ [46]
      rw [e46]
      refine go1 _ (by rw [bs_size, List.length_append]; show _ + 1 ≤ _; omega) ?_
      rw [ht, bs_append, jn_snoc _ _ (by
        intro e0
        have := congrArg List.length e0
        rw [List.length_take, List.length_nil] at this
        omega)]
      simp
theorem LabelParts_upto (a0 : ByteArray) (h0 : a0.size ≤ 1048576) : ∃ k, O.bailiwicklaw02_LabelParts.f k a0 = some true := by
  have hl : a0.data.toList.length = a0.size := by rw [Array.length_toList]; rfl
  obtain ⟨K, H⟩ := pl0 a0.data.toList (by omega) (sp a0.data.toList).length 0 (by omega)
  refine ⟨K + 40, ?_⟩
  have h := H (K + 40) (by omega)
  rw [bs_of, List.take_zero] at h
  rw [O.bailiwicklaw02_LabelParts.f, ex_le _ (by omega), Option.bind_some, if_pos rfl, Parts_val a0 (by omega), Option.bind_some, parts_sp]
  exact h
end Go.Proofs.YtipfiodeakapdaaDoor.Pure
