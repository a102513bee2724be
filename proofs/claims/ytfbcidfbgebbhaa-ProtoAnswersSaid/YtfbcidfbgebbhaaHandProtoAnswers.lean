/-
  The walk of the law ProtoAnswers.
-/
import Derived.Test.YtfbcidfbgebbhaaB2
namespace Go.Proofs.Ytfbcidfbgebbhaa.Pure
set_option linter.unusedVariables false
set_option linter.unusedSimpArgs false
open Go.RowKit Go.Proofs.YtfbcidfbgebbhaaW.PrintWords Go.Proofs.YtfbcidfbgebbhaaW.PrintLast Go.Proofs.YtfbcidfbgebbhaaW.PrintMore
open Go.Lib (hid)
set_option maxHeartbeats 1000000 in
set_option maxRecDepth 100000 in
theorem ProtoAnswers_walk (a0 : Int) (a1 : Int) (a2 : ByteArray) (a3 : ByteArray) (W : World) (w0 : (Lit.int IntKind.i64 a0).wf = true) (w1 : (Lit.int IntKind.i64 a1).wf = true) (w2 : a2.size ≤ 140737488351232) (w3 : a3.size ≤ 140737488351232) :
    Calls Try.prog 5 #[.int .i64 a0, .int .i64 a1, .string a2, .string a3] W fun e W' => e = .returned (.bool true) ∧ Below W.heap.size W W' := by
  have hE := hid (fun V => A.examples.calls V)
  obtain ⟨n, c, t, f, u, g, hTb, hRb, hfin⟩ := take_total a3 w3
  replace hRb := hid (fun V => P.proto_Reply.calls 42 n c t u g V hRb)
  replace hTb := hid hTb
  have hsz : (a2.size : Int) ≤ 9223372036854775807 := by omega
  by_cases hf : 0 ≤ a0 ∧ a0 < 4294967296 ∧ 0 ≤ a1 ∧ a1 ≤ 255 ∧ a2.size ≤ 100
  · have hR := reply_yes a0 a1 a2 hf
    have hT := hid (fun V => take_back a0 a1 a2 hf V)
    obtain ⟨X, hX⟩ : ∃ X, X = rep a0 a1 a2 := ⟨_, rfl⟩
    rw [← hX] at hR hT
    replace hR := hid (fun V => P.proto_Reply.calls 42 a0 a1 a2 X 0 V hR)
    clear hX
    obtain ⟨f0, f1, f2, f3, f4⟩ := hf
    have f5 : (a2.size : Int) ≤ 100 := by omega
    rcases hfin with ⟨rfl, rfl, rfl⟩ | rfl
    all_goals
      go_enter Try.func5, Try.ntmps5
      (try dsimp only [List.append])
      go_upto_region 4 with (first | ((with_reducible refine Calls.mono (hE.out _) ?_); rintro e v1 ⟨rfl, hb1⟩; replace hb1 := hid hb1))
      go_upto_region 5 with (first | ((with_reducible refine Calls.mono (hR.out _) ?_); rintro e v2 ⟨rfl, hb2⟩; replace hb2 := hid (below_then hb1.out hb1.out.size hb2)))
      go_upto_region 12 with (first | ((with_reducible refine Calls.mono (hT.out _) ?_); rintro e v3 ⟨rfl, hb3⟩; replace hb3 := hid (below_then hb2.out hb2.out.size hb3)))
      go_upto_region 13 with (first | ((with_reducible refine Calls.mono (hTb.out _) ?_); rintro e v4 ⟨rfl, hb4⟩; replace hb4 := hid (below_then hb3.out hb3.out.size hb4)))
      go_wp2_with (first | ((with_reducible refine Calls.mono (hRb.out _) ?_); rintro e v5 ⟨rfl, hb5⟩; replace hb5 := hid (below_then hb4.out hb4.out.size hb5)))
      go_ret
      exact ⟨rfl, hb5.out⟩
  · have hR := reply_no a0 a1 a2 hf
    replace hR := hid (fun V => P.proto_Reply.calls 42 a0 a1 a2 _ _ V hR)
    have hcase : ¬ 0 ≤ a0 ∨ (0 ≤ a0 ∧ ¬ a0 < 4294967296) ∨ (0 ≤ a0 ∧ a0 < 4294967296 ∧ ¬ 0 ≤ a1) ∨ (0 ≤ a0 ∧ a0 < 4294967296 ∧ 0 ≤ a1 ∧ ¬ a1 ≤ 255) ∨ (0 ≤ a0 ∧ a0 < 4294967296 ∧ 0 ≤ a1 ∧ a1 ≤ 255 ∧ ¬ (a2.size : Int) ≤ 100) := by omega
    clear hf
    rcases hcase with h1 | ⟨h1, h2⟩ | ⟨h1, h2, h3⟩ | ⟨h1, h2, h3, h4⟩ | ⟨h1, h2, h3, h4, h5⟩
    all_goals
      rcases hfin with ⟨rfl, rfl, rfl⟩ | rfl
    all_goals
      go_enter Try.func5, Try.ntmps5
      (try dsimp only [List.append])
      go_upto_region 4 with (first | ((with_reducible refine Calls.mono (hE.out _) ?_); rintro e v1 ⟨rfl, hb1⟩; replace hb1 := hid hb1))
      go_upto_region 5 with (first | ((with_reducible refine Calls.mono (hR.out _) ?_); rintro e v2 ⟨rfl, hb2⟩; replace hb2 := hid (below_then hb1.out hb1.out.size hb2)))
      go_upto_region 12 with fail
      go_upto_region 13 with (first | ((with_reducible refine Calls.mono (hTb.out _) ?_); rintro e v4 ⟨rfl, hb4⟩; replace hb4 := hid (below_then hb2.out hb2.out.size hb4)))
      go_wp2_with (first | ((with_reducible refine Calls.mono (hRb.out _) ?_); rintro e v5 ⟨rfl, hb5⟩; replace hb5 := hid (below_then hb4.out hb4.out.size hb5)))
      go_ret
      exact ⟨rfl, hb5.out⟩
end Go.Proofs.Ytfbcidfbgebbhaa.Pure
