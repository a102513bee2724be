/-
  The chapter's examples, walked.
-/
import Derived.Test.YtfbcidfbgebbhaaA3
namespace Go.Proofs.Ytfbcidfbgebbhaa.A
set_option linter.unusedVariables false
set_option linter.unusedSimpArgs false
open Go.RowKit Go.Proofs.YtfbcidfbgebbhaaW.PrintWords Go.Proofs.YtfbcidfbgebbhaaW.PrintLast Go.Proofs.YtfbcidfbgebbhaaW.PrintMore
open Go.Lib (hid)
set_option maxHeartbeats 1000000 in
set_option maxRecDepth 100000 in
theorem examples.calls (w : World) : Calls Try.prog 8 #[] w fun e w' => e = .returned (.bool true) ∧ Below w.heap.size w w' := by
  have hE := hid (fun W => Encode.example W)
  have hD := hid (fun W => Decode.example W)
  have hN := hid (fun W => Right.nil W)
  have hP := hid (fun b W => Right.ptr b W)
  have ha : ∀ W : World, (Instr.typeAssert (.iface 65 (.agg #[])) 20 65 true).run Try.prog W = .ok (.tuple #[.agg #[], .bool true]) W := as_quota
  go_enter Try.func8, Try.ntmps8
  go_upto_region 3 with (first | ((with_reducible refine Calls.mono (hE.out _) ?_); rintro e w1 ⟨rfl, hb1⟩; replace hb1 := hid hb1) | ((with_reducible refine Calls.mono (hD.out _) ?_); rintro e w2 ⟨rfl, hb2⟩; replace hb2 := hid (below_then hb1.out hb1.out.size hb2)))
  go_upto_region 4 with fail
  obtain ⟨w3, hw3⟩ : ∃ w3, w3 = w2.alloc (.cells #[] 65) := ⟨_, rfl⟩
  have hb3 : Hid (Below w.heap.size w w3) := hid (by rw [hw3]; exact below_alloc hb2.out _)
  rw [← hw3]
  clear hw3
  go_wp2_with (first | ((with_reducible refine Calls.mono (hN.out _) ?_); rintro e w4 ⟨rfl, rfl⟩) | ((with_reducible refine Calls.mono (hP.out _ _) ?_); rintro e w5 ⟨rfl, rfl⟩))
  go_ret
  exact ⟨rfl, below_alloc hb3.out _⟩
end Go.Proofs.Ytfbcidfbgebbhaa.A
