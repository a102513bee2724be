-- Written by a program of this session (gp.py), which drives the print with some lines turned. Not trusted: Lean checks it.
import Derived.Test.YtapfidadgafpbaaProg
import Derived.Below
import Derived.Deep.Draws
import Derived.Deep.AppendLies
import Derived.Maps.AppendAt
import Derived.OwnWalk
import Derived.Laws.BytesArg
import Derived.Laws.MakeOwn
import Derived.Laws.OwnMore
import Derived.Deep.OwnRows
import Derived.Tactics
import Derived.Lib.ConvBytes
import Derived.Laws.Slices
import Derived.WalkKit
import Derived.KernelRfl
import Derived.RowKit3
import Derived.Deep.LoopGhost
import Derived.Deep.QuietTactic
import Derived.BigQuiet
import Derived.WideLaws
import Derived.Deep.DeepCutAuto
import Derived.Deep.CutBlock
import Derived.Deep.RegionHeld3
import Derived.Laws.Rows
import Derived.Lib.AppendStr
import Derived.ArgAppend
import Derived.Laws.IdiomCopy
import Derived.OrdersHeld
import Derived.Laws.BitsLemmas
import Derived.RowKit
import Derived.Test.YtapfidadgafpbaaPx4
import Derived.Test.YtapfidadgafpbaaPx7
import Derived.Test.YtapfidadgafpbaaA4
import Derived.Test.YtapfidadgafpbaaOx2
import Derived.Test.YtapfidadgafpbaaR3
import Derived.Test.YtapfidadgafpbaaWWords
import Derived.Test.YtapfidadgafpbaaWLast
import Derived.Test.YtapfidadgafpbaaWTab
import Derived.Test.YtapfidadgafpbaaWApart
import Derived.Test.YtapfidadgafpbaaWFoot
import Derived.Test.YtapfidadgafpbaaWKept
import Derived.Test.YtapfidadgafpbaaWShare
import Derived.Test.YtapfidadgafpbaaWN
import Derived.Test.YtapfidadgafpbaaWEqStruct
import Derived.Test.YtapfidadgafpbaaWRepsOne
import Derived.Test.YtapfidadgafpbaaWMore
namespace Go.Proofs.Ytapfidadgafpbaa.Q
open Go.RowKit Go.Proofs.YtapfidadgafpbaaW.PrintWords Go.Proofs.YtapfidadgafpbaaW.PrintLast Go.Proofs.YtapfidadgafpbaaW.PrintMore
attribute [local go_sem] max2_int min2_int max_two min_two max_three min_three max_four min_four P.emod_u8 P.emod_u16 P.emod_u32
set_option linter.unusedVariables false
set_option linter.unusedSimpArgs false



def errW : Option Int → Value
  | none => .nilIface
  | some c => .iface 0 (.int .i64 c)
theorem errW_none : errW none = .nilIface := rfl
theorem errW_some (c : Int) : errW (some c) = .iface 0 (.int .i64 c) := rfl

-- the values' own types

end Go.Proofs.Ytapfidadgafpbaa.Q
