/- Any two numbers are one another's part, and have rights in common, as the reference says. No condition. -/
import Derived.Test.YtjoogkpakelcaaaB0
import Derived.Test.YtjoogkpakelcaaaGx3
import Derived.OpenShut
namespace Go.Proofs.Ytjoogkpakelcaaa.Pure
set_option linter.unusedVariables false
set_option linter.unusedSimpArgs false
open Go.RowKit Go.Proofs.Ytjoogkpakelcaaa.G Go.Proofs.YtjoogkpakelcaaaW.PrintWords Go.Proofs.YtjoogkpakelcaaaW.PrintLast

theorem RightsSets : bailiwicklaw05_RightsSets.Pure := by
  intro a b ha hb
  refine ⟨17, ?_⟩
  unfold bailiwicklaw05_RightsSets.f
  rw [ex_eq _ (by omega), Option.bind_some, if_pos rfl, rcut_eq]
  have h1 : ∃ r, rights_Sub.f a b = some r ∧ bailiwickref05_Sub.f a b = some r := by
    by_cases h : (0 ≤ a ∧ a < 65536) ∧ (0 ≤ b ∧ b < 65536)
    · obtain ⟨n, rfl⟩ := Int.eq_ofNat_of_zero_le h.1.1
      obtain ⟨m, rfl⟩ := Int.eq_ofNat_of_zero_le h.2.1
      exact ⟨_, sub_eq n m (by omega) (by omega), rsub_eq n m (by omega) (by omega)⟩
    · exact ⟨_, sub_none a b (by omega), rsub_none a b (by omega)⟩
  have h2 : ∃ r, rights_Cut.f a b = some r := by
    by_cases h : (0 ≤ a ∧ a < 65536) ∧ (0 ≤ b ∧ b < 65536)
    · obtain ⟨n, rfl⟩ := Int.eq_ofNat_of_zero_le h.1.1
      obtain ⟨m, rfl⟩ := Int.eq_ofNat_of_zero_le h.2.1
      exact ⟨_, cut_eq n m (by omega) (by omega)⟩
    · exact ⟨_, cut_none a b (by omega)⟩
  have h3 : ∃ r, rights_Count.f a = some r ∧ bailiwickref05_Count.f 17 a = some r := by
    by_cases h : 0 ≤ a ∧ a < 65536
    · obtain ⟨n, rfl⟩ := Int.eq_ofNat_of_zero_le h.1
      exact ⟨_, count_eq n (by omega), rcount_eq n (by omega) 17 (by omega)⟩
    · exact ⟨_, count_none a h, rcount_none a h 17⟩
  obtain ⟨r, e1, e2⟩ := h1
  obtain ⟨q, e3⟩ := h2
  obtain ⟨p, e4, e5⟩ := h3
  rw [e1, e2, e3, e4, e5]
  simp

end Go.Proofs.Ytjoogkpakelcaaa.Pure
