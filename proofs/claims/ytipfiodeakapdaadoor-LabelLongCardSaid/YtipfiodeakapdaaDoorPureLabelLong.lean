/- A label has at most sixteen runes, and at most thirty-two bytes: the plain law. No condition. -/
import Derived.Test.YtipfiodeakapdaaDoorB7
import Derived.Test.YtipfiodeakapdaaDoorOx7
import Derived.OpenShut
namespace Go.Proofs.YtipfiodeakapdaaDoor.Pure
set_option linter.unusedVariables false
set_option linter.unusedSimpArgs false
open Go.RowKit Go.Proofs.YtipfiodeakapdaaDoor.R Go.Proofs.YtipfiodeakapdaaDoorW.PrintWords Go.Proofs.YtipfiodeakapdaaDoorW.PrintLast
theorem one_right (b : UInt8) (K : Nat) (h1 : 97 ≤ b.toNat) (h2 : b.toNat ≤ 122) : rightB (bs (List.replicate K b)) = decide (1 ≤ K ∧ K ≤ 16) ∧ (rns (bs (List.replicate K b))).length = K := by
  have ha : ascii (List.replicate K b) := fun c hc => by rw [List.eq_of_mem_replicate hc]; omega
  refine ⟨?_, by rw [rns_ascii _ ha, List.length_map, List.length_replicate]⟩
  rw [right_ascii _ ha, List.length_replicate]
  have hp : plainB (b.toNat : Int) = true := by unfold plainB; exact decide_eq_true (by omega)
  by_cases hK : K = 0
  · subst hK; rfl
  · rw [good_letters _ (by simp [hK]) (fun r hr => by
      obtain ⟨c, hc, rfl⟩ := List.mem_map.1 hr
      rw [List.eq_of_mem_replicate hc]; exact hp), Bool.and_true]
    exact decide_eq_decide.2 (by omega)
theorem two_right (d : UInt8) (K : Nat) (h1 : 160 ≤ d.toNat) (h2 : d.toNat < 192) : rightB (bs (two d K)) = decide (1 ≤ K ∧ K ≤ 16) ∧ (rns (bs (two d K))).length = K := by
  have hr := rns_two d K h1 h2
  refine ⟨?_, by rw [hr, List.length_replicate]⟩
  rw [right_good, hr, bs_size, two_len, List.length_replicate]
  have hp : plainB ((d.toNat + 64 : Nat) : Int) = true := by unfold plainB; exact decide_eq_true (by omega)
  by_cases hK : K = 0
  · subst hK; rfl
  · rw [good_letters _ (by simp [hK]) (fun r hr => by rw [List.eq_of_mem_replicate hr]; exact hp), Bool.and_true]
    exact decide_eq_decide.2 (by omega)
theorem rep_snoc (b : UInt8) (i : Nat) : bs (List.replicate i b) ++ bs [b] = bs (List.replicate (i + 1) b) := by
  rw [bs_append, List.replicate_succ']
theorem long_loop (k : Nat) (c : Int) (K : Nat) (hc0 : 0 ≤ c) (hc1 : c ≤ 255) (hK : K ≤ 39) : ∀ j i, i + j = K →
    O.bailiwicklaw02_LabelLong.l0 (j + 2 + k) c true (K : Int) (bs (List.replicate i (b8 ((97 + Int.tmod c 26) % 256)))) (bs (two (b8 ((160 + Int.tmod c 32) % 256)) i)) (i : Int) = some true
  | 0, i, e => by
    have t1 : 0 ≤ Int.tmod c 26 ∧ Int.tmod c 26 < 26 := ⟨Int.tmod_nonneg _ hc0, Int.tmod_lt_of_pos c (by decide)⟩
    have t2 : 0 ≤ Int.tmod c 32 ∧ Int.tmod c 32 < 32 := ⟨Int.tmod_nonneg _ hc0, Int.tmod_lt_of_pos c (by decide)⟩
    have b1 := b8_nat ((97 + Int.tmod c 26) % 256) (by omega) (by omega)
    have b2 := b8_nat ((160 + Int.tmod c 32) % 256) (by omega) (by omega)
    generalize (b8 ((97 + Int.tmod c 26) % 256)) = b at *
    generalize (b8 ((160 + Int.tmod c 32) % 256)) = d at *
    obtain ⟨r1, n1⟩ := one_right b K (by omega) (by omega)
    obtain ⟨r2, n2⟩ := two_right d K (by omega) (by omega)
    have hi : i = K := by omega
    rw [hi]
    have s1 : (bs (List.replicate K b)).size ≤ 140737488355328 := by rw [bs_size, List.length_replicate]; omega
    have s2 : (bs (two d K)).size ≤ 140737488355328 := by rw [bs_size, two_len]; omega
    have e1 : Runes.f (bs (List.replicate K b)) = some (K : Int) := by rw [Runes.f, if_pos s1, n1]
    have e2 : Runes.f (bs (two d K)) = some (K : Int) := by rw [Runes.f, if_pos s2, n2]
    have e3 : Right.f (bs (List.replicate K b)) = some (decide (1 ≤ K ∧ K ≤ 16)) := by rw [Right.f, if_pos s1, r1]
    have e4 : Right.f (bs (two d K)) = some (decide (1 ≤ K ∧ K ≤ 16)) := by rw [Right.f, if_pos s2, r2]
    have fin : ∀ x : Bool, x = decide (1 ≤ K ∧ K ≤ 16) → O.bailiwicklaw02_LabelLong.j1 (k + 1) true (K : Int) (bs (List.replicate K b)) (bs (two d K)) x = some true := fun x hx => by
      rw [O.bailiwicklaw02_LabelLong.j1, if_pos rfl, e1, Option.bind_some, if_pos rfl, e2, Option.bind_some, if_pos rfl, e3, Option.bind_some, if_pos (by rw [hx]; simp), e4, Option.bind_some, hx]
      simp
    rw [show 0 + 2 + k = (k + 1) + 1 by omega, O.bailiwicklaw02_LabelLong.l0, if_neg (by omega)]
    by_cases h1 : (K : Int) ≥ 1
    · rw [if_pos h1]
      exact fin _ (decide_eq_decide.2 (by omega))
    · rw [if_neg h1]
      exact fin _ (decide_eq_false (by omega)).symm
  | j + 1, i, e => by
    have ih := long_loop k c K hc0 hc1 hK j (i + 1) (by omega)
    have n1 : wrap64 ((i : Int) + 1) = ((i + 1 : Nat) : Int) := by rw [w64 _ (by omega) (by omega)]; omega
    rw [show j + 1 + 2 + k = (j + 2 + k) + 1 by omega, O.bailiwicklaw02_LabelLong.l0, if_pos (by omega), Option.bind_some, str_one, bs_size, bs_size, List.length_replicate, if_pos (by show i + 1 ≤ _; omega), Option.bind_some, str_two, bs_size, bs_size, two_len, if_pos (by show 2 * i + 2 ≤ _; omega), rep_snoc, bs_append, n1]
    rw [show b8 195 = (195 : UInt8) from rfl, two_snoc]
    exact ih
theorem LabelLong : O.bailiwicklaw02_LabelLong.Pure := by
  intro a0 a1 h0 h1
  have b0 := bounds_u8 h0
  have b1 := bounds_u8 h1
  have t : 0 ≤ Int.tmod a0 40 ∧ Int.tmod a0 40 < 40 := ⟨Int.tmod_nonneg _ (by omega), Int.tmod_lt_of_pos a0 (by decide)⟩
  obtain ⟨K, hK⟩ := Int.eq_ofNat_of_zero_le t.1
  refine ⟨K + 2 + 40, ?_⟩
  rw [O.bailiwicklaw02_LabelLong.f, ex_le _ (by omega), Option.bind_some, if_pos rfl, w64 _ (by omega) (by omega), hK]
  exact long_loop 40 a1 K (by omega) (by omega) (by omega) K 0 (by omega)
end Go.Proofs.YtipfiodeakapdaaDoor.Pure
