/-
  Plain facts on labels: a label that is folded is a label, and folded again it is the same.
-/
import Derived.Test.YtapfidadgafpbaaR3
import Derived.Lib.DecodeN
namespace Go.Proofs.Ytapfidadgafpbaa.R
set_option linter.unusedVariables false
set_option linter.unusedSimpArgs false
open Go.RowKit Go.Proofs.YtapfidadgafpbaaW.PrintWords Go.Proofs.YtapfidadgafpbaaW.PrintLast Go.Proofs.YtapfidadgafpbaaW.PrintMore
theorem right_size (s : ByteArray) (h : rightB s = true) : s.size ≤ 32 := by
  unfold rightB at h
  exact (of_decide_eq_true (Bool.and_eq_true_iff.1 h).1).2.1
end Go.Proofs.Ytapfidadgafpbaa.R
