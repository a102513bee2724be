/- A mask's letters are read as it, rise, and are as many as are counted; letters that are read are the mask's, in whatever order they stood. No condition. -/
import Derived.Test.YtjoogkpakelcaaaB1
import Derived.OpenShut
namespace Go.Proofs.Ytjoogkpakelcaaa.Pure
set_option linter.unusedVariables false
set_option linter.unusedSimpArgs false
open Go.RowKit Go.Proofs.Ytjoogkpakelcaaa.G Go.Proofs.YtjoogkpakelcaaaW.PrintWords Go.Proofs.YtjoogkpakelcaaaW.PrintLast

theorem back_j2 (m : Int) (s : ByteArray) (ok : Bool) (hok : ok = decide (0 ≤ m ∧ m < 65536)) (k : Nat) (hk : 17 ≤ k) : bailiwicklaw05_RightsBack.j2 (k + 1) m s true ok = some true := by
  simp only [bailiwicklaw05_RightsBack.j2]
  unfold rights_Parse.f
  rw [Option.bind_some]
  cases hp : pz s.data.toList 0 with
  | none =>
    have ht := text_eq 0 (by decide) k hk
    simp only
    rw [show (0 : Int) = ((0 : Nat) : Int) from rfl, ht]
    subst hok
    by_cases h0 : 0 ≤ m
    · simp [h0]
    · simp [h0]
  | some n =>
    obtain ⟨h1, h2⟩ := pz_count s.data.toList 0 n (by decide) hp
    have h0 : pc 0 = 0 := by decide +kernel
    have ht := text_eq n h1 k hk
    have hl := lets_length n
    simp only
    rw [ht, count_eq n h1]
    have e : ((ByteArray.mk (lets n).toArray).size : Int) = (s.size : Int) := by
      rw [show (ByteArray.mk (lets n).toArray).size = (lets n).length by simp [ByteArray.size], hl, h2, h0]
      simp
    simp [e]
    rw [h2, h0]
    simp

theorem back_l0 (m : Int) (s t : ByteArray) (ok : Bool) (hok : ok = decide (0 ≤ m ∧ m < 65536)) (hs : t.size ≤ 16) (hinc : ∀ i j, i < j → j < t.size → bt t (i : Int) < bt t (j : Int)) :
    ∀ (d i : Nat), 1 ≤ i → i + d = t.size ∨ t.size ≤ i ∧ d = 0 → ∀ k, 18 + d < k → bailiwicklaw05_RightsBack.l0 k m s true t ok (i : Int) = some true
  | 0, i, h1, hi, k, hk => by
    obtain ⟨k, rfl⟩ : ∃ q, k = q + 2 := ⟨k - 2, by omega⟩
    simp only [bailiwicklaw05_RightsBack.l0]
    rw [if_neg (by omega)]
    exact back_j2 m s ok hok k (by omega)
  | d + 1, i, h1, hi, k, hk => by
    obtain ⟨k, rfl⟩ : ∃ q, k = q + 1 := ⟨k - 1, by omega⟩
    simp only [bailiwicklaw05_RightsBack.l0]
    have e1 : wrap64 ((i : Int) - 1) = ((i - 1 : Nat) : Int) := by unfold wrap64; omega
    have e2 : wrap64 ((i : Int) + 1) = ((i + 1 : Nat) : Int) := by unfold wrap64; omega
    have := hinc (i - 1) i (by omega) (by omega)
    rw [if_pos (by omega), e1, if_pos (by omega), if_pos (by omega), if_pos (by omega), if_neg (by omega), e2]
    exact back_l0 m s t ok hok hs hinc d (i + 1) (by omega) (by omega) k (by omega)

theorem RightsBack : bailiwicklaw05_RightsBack.Pure := by
  intro m s hm hs
  refine ⟨60, ?_⟩
  unfold bailiwicklaw05_RightsBack.f
  rw [ex_eq _ (by omega), Option.bind_some, if_pos rfl]
  by_cases h : 0 ≤ m ∧ m < 65536
  · obtain ⟨n, rfl⟩ := Int.eq_ofNat_of_zero_le h.1
    have hn : n < 65536 := by omega
    have hsz : (ByteArray.mk (lets n).toArray).size = pc n := by rw [← lets_length n]; simp [ByteArray.size]
    have h16 : pc n ≤ 16 := bitsOf_length n 16 0
    have hp : rights_Parse.f ⟨(lets n).toArray⟩ = some ((n : Int), true) := by
      unfold rights_Parse.f
      rw [show (ByteArray.mk (lets n).toArray).data.toList = lets n by simp, pz_lets n hn]
    rw [text_eq n hn _ (by omega), Option.bind_some, if_pos rfl]
    simp only
    rw [hp, Option.bind_some, if_pos rfl, if_pos rfl, count_eq n hn, Option.bind_some]
    simp only [bailiwicklaw05_RightsBack.j0]
    rw [if_neg (by rw [hsz]; simp)]
    exact back_l0 (n : Int) s _ true (by simp; omega) (by omega) (fun i j hij hj => lets_rise n i j hij (by rwa [hsz, ← lets_length n] at hj)) ((ByteArray.mk (lets n).toArray).size - 1) 1 (by omega) (by omega) _ (by omega)
  · rw [text_none m h, Option.bind_some]
    simp only
    rw [if_neg (by decide)]
    exact back_j2 m s false (by simp; omega) 59 (by omega)

end Go.Proofs.Ytjoogkpakelcaaa.Pure
