-- Written by a program of this session (gp.py), which drives the print with some lines turned. Not trusted: Lean checks it.
import Derived.Test.YtnghbfegijnolaaPx0
namespace Go.Proofs.Ytnghbfegijnolaa.P
open Go.RowKit Go.Proofs.YtnghbfegijnolaaW.PrintWords Go.Proofs.YtnghbfegijnolaaW.PrintLast Go.Proofs.YtnghbfegijnolaaW.PrintMore
attribute [local go_sem] max2_int min2_int max_two min_two max_three min_three max_four min_four emod_u8 emod_u16 emod_u32
set_option linter.unusedVariables false
set_option linter.unusedSimpArgs false

-- NOT PRINTED: function 34 (node_place)

-- NOT PRINTED: function 12 (node_Find)

/-! ### bailiwicklaw10_ref: function 16 -/
def bailiwicklaw10_ref.f (a0_0 : Bool) (l0_1 : List Int) (l0_2 : List ByteArray) (l0_3 : List Int) : Option (Bool × List Int × List ByteArray × List Int) := some (a0_0, l0_1, l0_2, l0_3)
end Go.Proofs.Ytnghbfegijnolaa.P
