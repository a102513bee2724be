/-
  What is refused: by Encode, Bears and Mutates.
-/
import Derived.Test.YtfbcidfbgebbhaaC2
namespace Go.Proofs.Ytfbcidfbgebbhaa.C
set_option linter.unusedVariables false
set_option linter.unusedSimpArgs false
open Go.RowKit Go.Proofs.YtfbcidfbgebbhaaW.PrintWords Go.Proofs.YtfbcidfbgebbhaaW.PrintLast Go.Proofs.YtfbcidfbgebbhaaW.PrintMore
open Go.Lib (hid)
set_option maxHeartbeats 1000000 in
set_option maxRecDepth 100000 in
theorem Encode_no (id : Int) (v : Value) (i q : Bool) (hI : P.proto_idRight.f id = some i) (hR : ∀ W : World, Calls Try.prog 12 #[v] W fun e w' => e = .returned (.bool q) ∧ Below W.heap.size W w') (hn : i = false ∨ (i = true ∧ q = false)) (w : World) :
    Calls Try.prog 10 #[.int .i64 id, v] w fun e w' => e = .returned (.tuple #[.string ⟨#[]⟩, .int .i64 1]) ∧ Below w.heap.size w w' := by
  have hI := hid (fun W => P.proto_idRight.calls id i W hI)
  have hR := hid hR
  rcases hn with rfl | ⟨rfl, rfl⟩
  · go_enter Try.func10, Try.ntmps10
    go_wp2_with (first | ((with_reducible refine Calls.mono (hI.out _) ?_); rintro e w1 ⟨rfl, nd, rfl⟩))
    go_ret2
    exact ⟨rfl, pw_below_drewN (Below.refl w.heap.size w) nd⟩
  · go_enter Try.func10, Try.ntmps10
    go_wp2_with (first | ((with_reducible refine Calls.mono (hI.out _) ?_); rintro e w1 ⟨rfl, nd, rfl⟩) | ((with_reducible refine Calls.mono (hR.out _) ?_); rintro e w2 ⟨rfl, hb2⟩; replace hb2 := hid (Below.trans (pw_below_drewN (Below.refl w.heap.size w) nd) hb2)))
    go_ret2
    exact ⟨rfl, hb2.out⟩
set_option maxHeartbeats 1000000 in
set_option maxRecDepth 100000 in
theorem Mutates_no (v : Value) (hR : ∀ W : World, Calls Try.prog 12 #[v] W fun e w' => e = .returned (.bool false) ∧ Below W.heap.size W w') (w : World) :
    Calls Try.prog 16 #[v] w fun e w' => e = .returned (.bool false) ∧ Below w.heap.size w w' := by
  have hR := hid hR
  go_enter Try.func16, Try.ntmps16
  go_wp2_with (first | ((with_reducible refine Calls.mono (hR.out _) ?_); rintro e w2 ⟨rfl, hb2⟩; replace hb2 := hid hb2))
  go_ret
  exact ⟨rfl, hb2.out⟩
set_option maxHeartbeats 1000000 in
set_option maxRecDepth 100000 in
theorem Bears_no (v z : Value) (o q : Bool) (ha : ∀ W : World, (Instr.typeAssert v 20 97 true).run Try.prog W = .ok (.tuple #[z, .bool o]) W) (hR : ∀ W : World, Calls Try.prog 12 #[v] W fun e w' => e = .returned (.bool q) ∧ Below W.heap.size W w') (hn : o = false ∨ (o = true ∧ q = false)) (w : World) :
    Calls Try.prog 15 #[v] w fun e w' => e = .returned (.tuple #[.string ⟨#[]⟩, .bool false]) ∧ Below w.heap.size w w' := by
  have hR := hid hR
  rcases hn with rfl | ⟨rfl, rfl⟩
  · go_enter Try.func15, Try.ntmps15
    go_wp2_with fail
    go_ret2
    exact ⟨rfl, Below.refl _ _⟩
  · go_enter Try.func15, Try.ntmps15
    go_wp2_with (first | ((with_reducible refine Calls.mono (hR.out _) ?_); rintro e w2 ⟨rfl, hb2⟩; replace hb2 := hid hb2))
    go_ret2
    exact ⟨rfl, hb2.out⟩
set_option maxHeartbeats 1000000 in
set_option maxRecDepth 100000 in
theorem Right_none (v : Value) (hO : ∀ W : World, Calls Try.prog 19 #[v] W fun e w' => e = .returned (.tuple #[.nilIface, .bool false]) ∧ W = w') (w : World) :
    Calls Try.prog 12 #[v] w fun e w' => e = .returned (.bool false) ∧ Below w.heap.size w w' := by
  have hO := hid hO
  go_enter Try.func12, Try.ntmps12
  go_wp2_with (first | ((with_reducible refine Calls.mono (hO.out _) ?_); rintro e w1 ⟨rfl, rfl⟩))
  go_ret
  exact ⟨rfl, Below.refl _ _⟩
end Go.Proofs.Ytfbcidfbgebbhaa.C
