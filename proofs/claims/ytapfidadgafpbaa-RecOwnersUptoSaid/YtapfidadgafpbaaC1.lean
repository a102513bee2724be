/-
  Plain facts beneath the statement on caps: what is read, without the document's answer.
-/
import Derived.Test.YtapfidadgafpbaaC0
namespace Go.Proofs.Ytapfidadgafpbaa.Pure
set_option linter.unusedVariables false
set_option linter.unusedSimpArgs false
open Go.RowKit Go.Proofs.Ytapfidadgafpbaa.G Go.Proofs.YtapfidadgafpbaaW.PrintWords Go.Proofs.YtapfidadgafpbaaW.PrintLast Go.Proofs.YtapfidadgafpbaaW.PrintMore
def capG (id : Int) (s : ByteArray) : Prop := s.size = 24 ∧ bt s 23 ≤ 1 ∧ capOk id (dat s 0 3) (dat s 3 3) (dat s 6 3) (dat s 9 2) (dat s 11 4) (dat s 15 1) (dat s 16 4) (dat s 20 3) = true
instance (id : Int) (s : ByteArray) : Decidable (capG id s) := by unfold capG; infer_instance
end Go.Proofs.Ytapfidadgafpbaa.Pure
