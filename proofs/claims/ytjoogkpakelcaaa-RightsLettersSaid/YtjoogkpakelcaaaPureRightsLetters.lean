/- Any number has the letters, and any text is read as a mask, as the reference says. No condition. -/
import Derived.Test.YtjoogkpakelcaaaB0
import Derived.Test.YtjoogkpakelcaaaGx1
import Derived.OpenShut
namespace Go.Proofs.Ytjoogkpakelcaaa.Pure
set_option linter.unusedVariables false
set_option linter.unusedSimpArgs false
open Go.RowKit Go.Proofs.Ytjoogkpakelcaaa.G Go.Proofs.YtjoogkpakelcaaaW.PrintWords Go.Proofs.YtjoogkpakelcaaaW.PrintLast

theorem RightsLetters : bailiwicklaw05_RightsLetters.Pure := by
  intro m s hm hs
  refine ⟨s.size + 17, ?_⟩
  unfold bailiwicklaw05_RightsLetters.f
  rw [ex_eq _ (by omega), Option.bind_some, if_pos rfl, rparse_eq s hs _ (by omega)]
  have ht : ∃ r, rights_Text.f (s.size + 17) m = some r ∧ bailiwickref05_Text.f (s.size + 17) m = some r := by
    by_cases h : 0 ≤ m ∧ m < 65536
    · obtain ⟨n, rfl⟩ := Int.eq_ofNat_of_zero_le h.1
      exact ⟨_, text_eq n (by omega) _ (by omega), rtext_eq n (by omega) _ (by omega)⟩
    · exact ⟨_, text_none m h _, rtext_none m h _⟩
  obtain ⟨r, h1, h2⟩ := ht
  obtain ⟨q, hq⟩ : ∃ q, rights_Parse.f s = some q := ⟨_, rfl⟩
  rw [h1, h2, hq]
  simp

end Go.Proofs.Ytjoogkpakelcaaa.Pure
