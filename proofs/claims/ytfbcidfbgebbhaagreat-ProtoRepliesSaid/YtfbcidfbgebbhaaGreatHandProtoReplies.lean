/-
  The walk of the law ProtoReplies.
-/
import Derived.Test.YtfbcidfbgebbhaaGreatB4
namespace Go.Proofs.YtfbcidfbgebbhaaGreat.Pure
set_option linter.unusedVariables false
set_option linter.unusedSimpArgs false
open Go.RowKit Go.Proofs.YtfbcidfbgebbhaaGreatW.PrintWords Go.Proofs.YtfbcidfbgebbhaaGreatW.PrintLast Go.Proofs.YtfbcidfbgebbhaaGreatW.PrintMore
open Go.Lib (hid)
set_option maxHeartbeats 1000000 in
set_option maxRecDepth 100000 in
theorem ProtoReplies_walk (a0 : Int) (a1 : Int) (a2 : ByteArray) (a3 : ByteArray) (W : World) (w0 : (Lit.int IntKind.i64 a0).wf = true) (w1 : (Lit.int IntKind.i64 a1).wf = true) (w2 : a2.size ≤ 140737488351232) (w3 : a3.size ≤ 140737488351232) :
    Calls Tryz.prog 4 #[.int .i64 a0, .int .i64 a1, .string a2, .string a3] W fun e W' => e = .returned (.bool true) ∧ Below W.heap.size W W' := by
  have hE := hid (fun V => A.examples.calls V)
  obtain ⟨n, c, t, f, is, hT, hU, hfin⟩ := both_total a3 w3
  obtain ⟨s, e, ok, hR, gR, heq⟩ : ∃ s e ok, P.proto_Reply.f 42 a0 a1 a2 = some (s, e) ∧ P.bailiwickref21_Reply.f 42 a0 a1 a2 = some (s, ok) ∧ ((e = 0 ∧ ok = true) ∨ (e = 1 ∧ ok = false)) := by
    by_cases h : 0 ≤ a0 ∧ a0 < 4294967296 ∧ 0 ≤ a1 ∧ a1 ≤ 255 ∧ a2.size ≤ 100
    · exact ⟨_, _, _, reply_yes _ _ _ h, rreply_yes _ _ _ h, .inl ⟨rfl, rfl⟩⟩
    · exact ⟨_, _, _, reply_no _ _ _ h, rreply_no _ _ _ h, .inr ⟨rfl, rfl⟩⟩
  replace hR := hid (fun V => P.proto_Reply.calls 42 a0 a1 a2 s e V hR)
  replace gR := hid (fun V => P.bailiwickref21_Reply.calls 42 a0 a1 a2 s ok V gR)
  replace hT := hid hT
  replace hU := hid hU
  clear w0 w1 w2 w3
  rcases hfin with ⟨rfl, rfl⟩ | ⟨rfl, rfl⟩
  all_goals
    rcases heq with ⟨rfl, rfl⟩ | ⟨rfl, rfl⟩
  all_goals
    go_enter Tryz.func4, Tryz.ntmps4
    (try dsimp only [List.append])
    go_upto_region 4 with (first | ((with_reducible refine Calls.mono (hE.out _) ?_); rintro e v1 ⟨rfl, hb1⟩; replace hb1 := hid hb1))
    go_upto_region 5 with (first | ((with_reducible refine Calls.mono (hR.out _) ?_); rintro e v2 ⟨rfl, hb2⟩; replace hb2 := hid (below_then hb1.out hb1.out.size hb2)))
    go_upto_region 6 with (first | ((with_reducible refine Calls.mono (gR.out _) ?_); rintro e v3 ⟨rfl, hb3⟩; replace hb3 := hid (below_then hb2.out hb2.out.size hb3)))
    go_upto_region 7 with (first | ((with_reducible refine Calls.mono (hT.out _) ?_); rintro e v4 ⟨rfl, hb4⟩; replace hb4 := hid (below_then hb3.out hb3.out.size hb4)))
    go_upto_region 8 with (first | ((with_reducible refine Calls.mono (hU.out _) ?_); rintro e v5 ⟨rfl, hb5⟩; replace hb5 := hid (below_then hb4.out hb4.out.size hb5)))
    go_wp2_with fail
    go_ret
    exact ⟨rfl, hb5.out⟩
end Go.Proofs.YtfbcidfbgebbhaaGreat.Pure
