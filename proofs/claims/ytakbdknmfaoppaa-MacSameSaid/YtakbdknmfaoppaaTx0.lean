-- Written by a program of this session (gp.py), which drives the print with some lines turned. Not trusted: Lean checks it.
import Derived.Test.YtakbdknmfaoppaaProg
import Derived.Below
import Derived.Deep.Draws
import Derived.Deep.AppendLies
import Derived.Maps.AppendAt
import Derived.OwnWalk
import Derived.Laws.BytesArg
import Derived.Laws.MakeOwn
import Derived.Laws.OwnMore
import Derived.Deep.OwnRows
import Derived.Tactics
import Derived.Lib.ConvBytes
import Derived.Laws.Slices
import Derived.WalkKit
import Derived.KernelRfl
import Derived.RowKit3
import Derived.Deep.LoopGhost
import Derived.Deep.QuietTactic
import Derived.BigQuiet
import Derived.WideLaws
import Derived.Deep.DeepCutAuto
import Derived.Deep.CutBlock
import Derived.Deep.RegionHeld3
import Derived.Laws.Rows
import Derived.Lib.AppendStr
import Derived.ArgAppend
import Derived.Laws.IdiomCopy
import Derived.OrdersHeld
import Derived.Laws.BitsLemmas
import Derived.RowKit
import Derived.Test.YtakbdknmfaoppaaPx1
import Derived.Test.YtakbdknmfaoppaaPx3
import Derived.Test.YtakbdknmfaoppaaQx2
import Derived.Test.YtakbdknmfaoppaaA5
import Derived.Test.YtakbdknmfaoppaaWWords
import Derived.Test.YtakbdknmfaoppaaWLast
import Derived.Test.YtakbdknmfaoppaaWTab
import Derived.Test.YtakbdknmfaoppaaWFour
import Derived.Test.YtakbdknmfaoppaaWQPut
import Derived.Test.YtakbdknmfaoppaaWApart
import Derived.Test.YtakbdknmfaoppaaWArr
import Derived.Test.YtakbdknmfaoppaaWZeros
import Derived.Test.YtakbdknmfaoppaaWFoot
import Derived.Test.YtakbdknmfaoppaaWKept
import Derived.Test.YtakbdknmfaoppaaWShare
import Derived.Test.YtakbdknmfaoppaaWN
import Derived.Test.YtakbdknmfaoppaaWFootNe
import Derived.Test.YtakbdknmfaoppaaWAt
import Derived.Test.YtakbdknmfaoppaaWEqStruct
import Derived.Test.YtakbdknmfaoppaaWRepsOne
import Derived.Test.YtakbdknmfaoppaaWInv
import Derived.Test.YtakbdknmfaoppaaWInvWords
import Derived.Test.YtakbdknmfaoppaaWGuard
import Derived.Test.YtakbdknmfaoppaaWNEv
import Derived.Test.YtakbdknmfaoppaaWMore
namespace Go.Proofs.Ytakbdknmfaoppaa.T
open Go.RowKit Go.Proofs.YtakbdknmfaoppaaW.PrintWords Go.Proofs.YtakbdknmfaoppaaW.PrintLast Go.Proofs.YtakbdknmfaoppaaW.PrintMore
attribute [local go_sem] max2_int min2_int max_two min_two max_three min_three max_four min_four P.emod_u8 P.emod_u16 P.emod_u32
set_option linter.unusedVariables false
set_option linter.unusedSimpArgs false



def errW : Option Int → Value
  | none => .nilIface
  | some c => .iface 0 (.int .i64 c)
theorem errW_none : errW none = .nilIface := rfl
theorem errW_some (c : Int) : errW (some c) = .iface 0 (.int .i64 c) := rfl

theorem info5 : (Try.prog.info? 5).map (fun i => (i.zero, i.size, i.bytes)) = some (some (.int .u8 0), 1, 1) := by kernel_rfl
-- the values' own types

end Go.Proofs.Ytakbdknmfaoppaa.T
