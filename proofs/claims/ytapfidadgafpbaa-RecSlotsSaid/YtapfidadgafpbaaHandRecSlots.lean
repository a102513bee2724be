/-
  The plain law on slots, and the printed walk at it.
-/
import Derived.Test.YtapfidadgafpbaaB1
import Derived.Test.YtapfidadgafpbaaSx3
import Derived.OpenShut
namespace Go.Proofs.Ytapfidadgafpbaa.Pure
set_option linter.unusedVariables false
set_option linter.unusedSimpArgs false
open Go.RowKit Go.Proofs.Ytapfidadgafpbaa.G Go.Proofs.YtapfidadgafpbaaW.PrintWords Go.Proofs.YtapfidadgafpbaaW.PrintLast Go.Proofs.YtapfidadgafpbaaW.PrintMore
theorem slots_true (i c e n id : Int) (s : ByteArray) (h0 : 0 ≤ n) (h1 : n < 18446744073709551616) : S.bailiwicklaw14_RecSlots.f 40 i c e n id s = some true := by
  unfold S.bailiwicklaw14_RecSlots.f
  have e1 : P.rec_SlotRight.f i c e n = some (slotOk i c e) := by rw [P.rec_SlotRight.f, right_eq]; rfl
  simp only [ex_eq, xPutSlot.f, xTakeSlot.f, write_eq i c e n h0 h1, rwrite_eq i c e n h0 h1, take_eq, rtake_eq, e1, rright_eq, Option.bind_some]
  by_cases g : slotOk i c e = true
  · by_cases t : s.size = 12 ∧ slotOk id (dat s 0 3) (dat s 3 1) = true
    · simp [g, t]
    · simp [g, t]
  · by_cases t : s.size = 12 ∧ slotOk id (dat s 0 3) (dat s 3 1) = true
    · simp [g, t]
    · simp [g, t]
theorem RecSlots_walk (i c e n id : Int) (s : ByteArray) (w : World) (w0 : (Lit.int .i64 i).wf = true) (w1 : (Lit.int .i64 c).wf = true) (w2 : (Lit.int .i64 e).wf = true) (w3 : (Lit.int .u64 n).wf = true) (w4 : (Lit.int .i64 id).wf = true) (w5 : s.size ≤ 140737488351232) :
    Calls Try.prog 4 #[.agg #[.int .i64 i, .int .i64 c, .int .i64 e, .int .u64 n], .int .i64 id, .string s] w fun e w' => e = .returned (.bool true) ∧ Below w.heap.size w w' := by
  have b := bounds_u64 w3
  exact S.bailiwicklaw14_RecSlots.calls 40 i c e n id s true w (slots_true i c e n id s (by omega) (by omega)) rfl
end Go.Proofs.Ytapfidadgafpbaa.Pure
