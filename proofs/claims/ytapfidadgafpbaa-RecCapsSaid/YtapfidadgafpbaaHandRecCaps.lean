/-
  The plain law on caps, and the printed walks at it (one for each answer of the document's writer).
-/
import Derived.Test.YtapfidadgafpbaaB3
import Derived.Test.YtapfidadgafpbaaCx3
import Derived.Test.YtapfidadgafpbaaDx3
import Derived.OpenShut
namespace Go.Proofs.Ytapfidadgafpbaa.Pure
set_option linter.unusedVariables false
set_option linter.unusedSimpArgs false
open Go.RowKit Go.Proofs.Ytapfidadgafpbaa.G Go.Proofs.YtapfidadgafpbaaW.PrintWords Go.Proofs.YtapfidadgafpbaaW.PrintLast Go.Proofs.YtapfidadgafpbaaW.PrintMore
theorem caps_trueC (xa xb xc xd xe xf xg xh xi id : Int) (xj : Bool) (s : ByteArray) : C.bailiwicklaw14_RecCaps.f 41 xa xb xc xd xe xf xg xh xi xj id s = some true := by
  unfold C.bailiwicklaw14_RecCaps.f
  have e1 : P.rec_CapRight.f 41 xa xb xc xd xe xf xg xh xi xj = some (capOk xa xb xc xd xe xf xg xh xi) := by rw [P.rec_CapRight.f, cap_eq 40]; rfl
  simp only [ex_eq, xPutCap.f, cwrite_eq, rcwrite_eq, ctake_eq, rctake_eq, e1, rcap_eq, Option.bind_some]
  by_cases g : capOk xa xb xc xd xe xf xg xh xi = true
  · by_cases t : capG id s
    · simp [g, t]
    · simp [g, t]
  · by_cases t : capG id s
    · simp [g, t]
    · simp [g, t]
theorem caps_trueD (xa xb xc xd xe xf xg xh xi id : Int) (xj : Bool) (s : ByteArray) : D.bailiwicklaw14_RecCaps.f 41 xa xb xc xd xe xf xg xh xi xj id s = some true := by
  unfold D.bailiwicklaw14_RecCaps.f
  have e1 : P.rec_CapRight.f 41 xa xb xc xd xe xf xg xh xi xj = some (capOk xa xb xc xd xe xf xg xh xi) := by rw [P.rec_CapRight.f, cap_eq 40]; rfl
  simp only [ex_eq, xPutCap.f, cwrite_eq, rcwrite_eq, ctake_eq, rctake_eq, e1, rcap_eq, Option.bind_some]
  by_cases g : capOk xa xb xc xd xe xf xg xh xi = true
  · by_cases t : capG id s
    · simp [g, t]
    · simp [g, t]
  · by_cases t : capG id s
    · simp [g, t]
    · simp [g, t]
theorem RecCaps_walk (xa xb xc xd xe xf xg xh xi : Int) (xj : Bool) (id : Int) (s : ByteArray) (w : World) (w0 : (Lit.int .i64 xa).wf = true) (w1 : (Lit.int .i64 xb).wf = true) (w2 : (Lit.int .i64 xc).wf = true) (w3 : (Lit.int .i64 xd).wf = true) (w4 : (Lit.int .i64 xe).wf = true) (w5 : (Lit.int .i64 xf).wf = true) (w6 : (Lit.int .i64 xg).wf = true) (w7 : (Lit.int .i64 xh).wf = true) (w8 : (Lit.int .i64 xi).wf = true) (w9 : (Lit.int .i64 id).wf = true) (w10 : s.size ≤ 140737488351232) :
    Calls Try.prog 5 #[capV xa xb xc xd xe xf xg xh xi xj, .int .i64 id, .string s] w fun e w' => e = .returned (.bool true) ∧ Below w.heap.size w w' := by
  by_cases g : capOk xa xb xc xd xe xf xg xh xi = true
  · exact C.bailiwicklaw14_RecCaps.calls 41 xa xb xc xd xe xf xg xh xi xj id s true w (caps_trueC xa xb xc xd xe xf xg xh xi id xj s) rfl (fun r1 r2 h => by rw [rcwrite_eq, if_pos g] at h; cases h; rfl)
  · exact D.bailiwicklaw14_RecCaps.calls 41 xa xb xc xd xe xf xg xh xi xj id s true w (caps_trueD xa xb xc xd xe xf xg xh xi id xj s) rfl (fun r1 r2 h => by rw [rcwrite_eq, if_neg g] at h; cases h; rfl)
end Go.Proofs.Ytapfidadgafpbaa.Pure
