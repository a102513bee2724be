/- Any kind and text are sealed, any bytes are opened, any text has the sum, as the reference says, or it is refused. No condition. -/
import Derived.Test.YtnffhdlkkfphbaaB1
import Derived.Test.YtnffhdlkkfphbaaGx2
namespace Go.Proofs.Ytnffhdlkkfphbaa.Pure
set_option linter.unusedVariables false
set_option linter.unusedSimpArgs false
open Go.RowKit Go.Proofs.Ytnffhdlkkfphbaa.G Go.Proofs.YtnffhdlkkfphbaaW.PrintWords Go.Proofs.YtnffhdlkkfphbaaW.PrintLast

theorem ex_all (k : Nat) (hk : 10 ≤ k) : bailiwicklaw07_examples.f k = some true := at_rounds (fun k => bailiwicklaw07_examples.mono k) hk ex_eq
theorem PageSeals : bailiwicklaw07_PageSeals.Pure := by
  intro kind text b hw hs hb
  refine ⟨text.size + 300, ?_⟩
  unfold bailiwicklaw07_PageSeals.f
  rw [ex_all _ (by omega), Option.bind_some, if_pos rfl, rseal_eq kind text hw hs _ (by omega), rsum_eq text (by omega) _ (by omega), psum_eq text (by omega)]
  have ho : ∃ r, page_Open.f (text.size + 300) b = some r ∧ bailiwickref07_Open.f (text.size + 300) b = some r := by
    by_cases h : b.size = 256
    · exact ⟨_, popen_eq b h _ (by omega), ropen_eq b h _ (by omega)⟩
    · exact ⟨_, popen_other b h _, ropen_other b h _⟩
  obtain ⟨r, h1, h2⟩ := ho
  rw [h1, h2]
  unfold page_Seal.f
  by_cases hc : 1 ≤ kind ∧ kind ≤ 15 ∧ text.size ≤ 240
  · rw [if_pos hc, if_pos hc]
    simp
  · rw [if_neg hc, if_neg hc]
    simp
end Go.Proofs.Ytnffhdlkkfphbaa.Pure
