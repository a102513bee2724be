-- Written by a program of this session (gp.py), which drives the print with some lines turned. Not trusted: Lean checks it.
import Derived.Test.YtbneljnmhofjfaaProg
import Derived.Below
import Derived.Deep.Draws
import Derived.Deep.AppendLies
import Derived.Maps.AppendAt
import Derived.OwnWalk
import Derived.Laws.BytesArg
import Derived.Laws.MakeOwn
import Derived.Laws.OwnMore
import Derived.Deep.OwnRows
import Derived.Tactics
import Derived.Lib.ConvBytes
import Derived.Laws.Slices
import Derived.WalkKit
import Derived.KernelRfl
import Derived.RowKit3
import Derived.Deep.LoopGhost
import Derived.Deep.QuietTactic
import Derived.BigQuiet
import Derived.WideLaws
import Derived.Deep.DeepCutAuto
import Derived.Deep.CutBlock
import Derived.Deep.RegionHeld3
import Derived.Laws.Rows
import Derived.Lib.AppendStr
import Derived.ArgAppend
import Derived.Laws.IdiomCopy
import Derived.OrdersHeld
import Derived.Laws.BitsLemmas
import Derived.RowKit
import Derived.Test.YtbneljnmhofjfaaPx1
import Derived.Test.YtbneljnmhofjfaaA3
import Derived.Test.YtbneljnmhofjfaaWWords
import Derived.Test.YtbneljnmhofjfaaWLast
import Derived.Test.YtbneljnmhofjfaaWTab
import Derived.Test.YtbneljnmhofjfaaWFour
import Derived.Test.YtbneljnmhofjfaaWQPut
import Derived.Test.YtbneljnmhofjfaaWApart
import Derived.Test.YtbneljnmhofjfaaWArr
import Derived.Test.YtbneljnmhofjfaaWZeros
import Derived.Test.YtbneljnmhofjfaaWFoot
import Derived.Test.YtbneljnmhofjfaaWKept
import Derived.Test.YtbneljnmhofjfaaWShare
import Derived.Test.YtbneljnmhofjfaaWN
import Derived.Test.YtbneljnmhofjfaaWFootNe
import Derived.Test.YtbneljnmhofjfaaWAt
import Derived.Test.YtbneljnmhofjfaaWEqStruct
import Derived.Test.YtbneljnmhofjfaaWRepsOne
import Derived.Test.YtbneljnmhofjfaaWInv
import Derived.Test.YtbneljnmhofjfaaWInvWords
import Derived.Test.YtbneljnmhofjfaaWGuard
import Derived.Test.YtbneljnmhofjfaaWNEv
import Derived.Test.YtbneljnmhofjfaaWMore
namespace Go.Proofs.Ytbneljnmhofjfaa.V
open Go.RowKit Go.Proofs.YtbneljnmhofjfaaW.PrintWords Go.Proofs.YtbneljnmhofjfaaW.PrintLast Go.Proofs.YtbneljnmhofjfaaW.PrintMore
attribute [local go_sem] max2_int min2_int max_two min_two max_three min_three max_four min_four G.emod_u8 G.emod_u16 G.emod_u32
set_option linter.unusedVariables false
set_option linter.unusedSimpArgs false



def errW : Option Int → Value
  | none => .nilIface
  | some c => .iface 0 (.int .i64 c)
theorem errW_none : errW none = .nilIface := rfl
theorem errW_some (c : Int) : errW (some c) = .iface 0 (.int .i64 c) := rfl

-- the values' own types

end Go.Proofs.Ytbneljnmhofjfaa.V
