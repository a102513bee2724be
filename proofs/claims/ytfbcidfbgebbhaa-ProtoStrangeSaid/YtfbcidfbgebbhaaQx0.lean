-- Written by a program of this session (gp.py), which drives the print with some lines turned. Not trusted: Lean checks it.
import Derived.Test.YtfbcidfbgebbhaaProg
import Derived.Below
import Derived.Deep.Draws
import Derived.Deep.AppendLies
import Derived.Maps.AppendAt
import Derived.OwnWalk
import Derived.Laws.BytesArg
import Derived.Laws.MakeOwn
import Derived.Laws.OwnMore
import Derived.Deep.OwnRows
import Derived.Tactics
import Derived.Lib.ConvBytes
import Derived.Laws.Slices
import Derived.WalkKit
import Derived.KernelRfl
import Derived.RowKit3
import Derived.Deep.LoopGhost
import Derived.Deep.QuietTactic
import Derived.BigQuiet
import Derived.WideLaws
import Derived.Deep.DeepCutAuto
import Derived.Deep.CutBlock
import Derived.Deep.RegionHeld3
import Derived.Laws.Rows
import Derived.Lib.AppendStr
import Derived.ArgAppend
import Derived.Laws.IdiomCopy
import Derived.OrdersHeld
import Derived.Laws.BitsLemmas
import Derived.RowKit
import Derived.Test.YtfbcidfbgebbhaaS0
import Derived.Test.YtfbcidfbgebbhaaPx1
import Derived.Test.YtfbcidfbgebbhaaRi
import Derived.Test.YtfbcidfbgebbhaaWWords
import Derived.Test.YtfbcidfbgebbhaaWLast
import Derived.Test.YtfbcidfbgebbhaaWTab
import Derived.Test.YtfbcidfbgebbhaaWFour
import Derived.Test.YtfbcidfbgebbhaaWQPut
import Derived.Test.YtfbcidfbgebbhaaWApart
import Derived.Test.YtfbcidfbgebbhaaWArr
import Derived.Test.YtfbcidfbgebbhaaWZeros
import Derived.Test.YtfbcidfbgebbhaaWFoot
import Derived.Test.YtfbcidfbgebbhaaWKept
import Derived.Test.YtfbcidfbgebbhaaWShare
import Derived.Test.YtfbcidfbgebbhaaWN
import Derived.Test.YtfbcidfbgebbhaaWFootNe
import Derived.Test.YtfbcidfbgebbhaaWAt
import Derived.Test.YtfbcidfbgebbhaaWEqStruct
import Derived.Test.YtfbcidfbgebbhaaWRepsOne
import Derived.Test.YtfbcidfbgebbhaaWInv
import Derived.Test.YtfbcidfbgebbhaaWInvWords
import Derived.Test.YtfbcidfbgebbhaaWGuard
import Derived.Test.YtfbcidfbgebbhaaWNEv
import Derived.Test.YtfbcidfbgebbhaaWMore
namespace Go.Proofs.Ytfbcidfbgebbhaa.Q
open Go.RowKit Go.Proofs.YtfbcidfbgebbhaaW.PrintWords Go.Proofs.YtfbcidfbgebbhaaW.PrintLast Go.Proofs.YtfbcidfbgebbhaaW.PrintMore
attribute [local go_sem] max2_int min2_int max_two min_two max_three min_three max_four min_four P.emod_u8 P.emod_u16 P.emod_u32
set_option linter.unusedVariables false
set_option linter.unusedSimpArgs false



def errW : Option Int → Value
  | none => .nilIface
  | some c => .iface 0 (.int .i64 c)
theorem errW_none : errW none = .nilIface := rfl
theorem errW_some (c : Int) : errW (some c) = .iface 0 (.int .i64 c) := rfl

theorem info21 : (Try.prog.info? 21).map (fun i => (i.zero, i.size, i.bytes)) = some (some (.int .i32 0), 1, 4) := by kernel_rfl
-- the values' own types

end Go.Proofs.Ytfbcidfbgebbhaa.Q
