-- Written by a program of this session (gp.py), which drives the print with some lines turned. Not trusted: Lean checks it.
import Derived.Test.YtnffhdlkkfphbaaProg
import Derived.Below
import Derived.Deep.Draws
import Derived.Deep.AppendLies
import Derived.Maps.AppendAt
import Derived.OwnWalk
import Derived.Laws.BytesArg
import Derived.Laws.MakeOwn
import Derived.Laws.OwnMore
import Derived.Deep.OwnRows
import Derived.Tactics
import Derived.Lib.ConvBytes
import Derived.Laws.Slices
import Derived.WalkKit
import Derived.KernelRfl
import Derived.RowKit3
import Derived.Deep.LoopGhost
import Derived.Deep.QuietTactic
import Derived.BigQuiet
import Derived.WideLaws
import Derived.Deep.DeepCutAuto
import Derived.Deep.CutBlock
import Derived.Deep.RegionHeld3
import Derived.Laws.Rows
import Derived.Lib.AppendStr
import Derived.ArgAppend
import Derived.Laws.IdiomCopy
import Derived.OrdersHeld
import Derived.Laws.BitsLemmas
import Derived.RowKit
import Derived.Test.YtnffhdlkkfphbaaA0
import Derived.Test.YtnffhdlkkfphbaaWWords
import Derived.Test.YtnffhdlkkfphbaaWLast
import Derived.Test.YtnffhdlkkfphbaaWTab
import Derived.Test.YtnffhdlkkfphbaaWFour
import Derived.Test.YtnffhdlkkfphbaaWQPut
import Derived.Test.YtnffhdlkkfphbaaWApart
import Derived.Test.YtnffhdlkkfphbaaWArr
import Derived.Test.YtnffhdlkkfphbaaWZeros
import Derived.Test.YtnffhdlkkfphbaaWFoot
import Derived.Test.YtnffhdlkkfphbaaWKept
import Derived.Test.YtnffhdlkkfphbaaWShare
import Derived.Test.YtnffhdlkkfphbaaWN
import Derived.Test.YtnffhdlkkfphbaaWFootNe
import Derived.Test.YtnffhdlkkfphbaaWAt
import Derived.Test.YtnffhdlkkfphbaaWEqStruct
import Derived.Test.YtnffhdlkkfphbaaWRepsOne
import Derived.Test.YtnffhdlkkfphbaaWInv
import Derived.Test.YtnffhdlkkfphbaaWInvWords
import Derived.Test.YtnffhdlkkfphbaaWGuard
import Derived.Test.YtnffhdlkkfphbaaWNEv
import Derived.Test.YtnffhdlkkfphbaaWMore
namespace Go.Proofs.Ytnffhdlkkfphbaa.G
open Go.RowKit Go.Proofs.YtnffhdlkkfphbaaW.PrintWords Go.Proofs.YtnffhdlkkfphbaaW.PrintLast Go.Proofs.YtnffhdlkkfphbaaW.PrintMore
attribute [local go_sem] max2_int min2_int max_two min_two max_three min_three max_four min_four emod_u8 emod_u16 emod_u32
set_option linter.unusedVariables false
set_option linter.unusedSimpArgs false



def errW : Option Int → Value
  | none => .nilIface
  | some c => .iface 0 (.int .i64 c)
theorem errW_none : errW none = .nilIface := rfl
theorem errW_some (c : Int) : errW (some c) = .iface 0 (.int .i64 c) := rfl

theorem info5 : (Try.prog.info? 5).map (fun i => (i.zero, i.size, i.bytes)) = some (some (.int .u8 0), 1, 1) := by kernel_rfl
-- the values' own types

end Go.Proofs.Ytnffhdlkkfphbaa.G
