-- Written by a program of this session (gp.py), which drives the print with some lines turned. Not trusted: Lean checks it.
import Derived.Test.YtjoogkpakelcaaaProg
import Derived.Below
import Derived.Deep.Draws
import Derived.Deep.AppendLies
import Derived.Maps.AppendAt
import Derived.OwnWalk
import Derived.Laws.BytesArg
import Derived.Laws.MakeOwn
import Derived.Laws.OwnMore
import Derived.Deep.OwnRows
import Derived.Tactics
import Derived.Lib.ConvBytes
import Derived.Laws.Slices
import Derived.WalkKit
import Derived.KernelRfl
import Derived.RowKit3
import Derived.Deep.LoopGhost
import Derived.Deep.QuietTactic
import Derived.BigQuiet
import Derived.WideLaws
import Derived.Deep.DeepCutAuto
import Derived.Deep.CutBlock
import Derived.Deep.RegionHeld3
import Derived.Laws.Rows
import Derived.Lib.AppendStr
import Derived.ArgAppend
import Derived.Laws.IdiomCopy
import Derived.OrdersHeld
import Derived.Laws.BitsLemmas
import Derived.RowKit
import Derived.Test.YtjoogkpakelcaaaA0
import Derived.Test.YtjoogkpakelcaaaWWords
import Derived.Test.YtjoogkpakelcaaaWLast
import Derived.Test.YtjoogkpakelcaaaWTab
import Derived.Test.YtjoogkpakelcaaaWFour
import Derived.Test.YtjoogkpakelcaaaWQPut
import Derived.Test.YtjoogkpakelcaaaWApart
import Derived.Test.YtjoogkpakelcaaaWArr
import Derived.Test.YtjoogkpakelcaaaWZeros
import Derived.Test.YtjoogkpakelcaaaWFoot
import Derived.Test.YtjoogkpakelcaaaWKept
import Derived.Test.YtjoogkpakelcaaaWShare
import Derived.Test.YtjoogkpakelcaaaWN
import Derived.Test.YtjoogkpakelcaaaWFootNe
import Derived.Test.YtjoogkpakelcaaaWAt
import Derived.Test.YtjoogkpakelcaaaWEqStruct
import Derived.Test.YtjoogkpakelcaaaWRepsOne
import Derived.Test.YtjoogkpakelcaaaWInv
import Derived.Test.YtjoogkpakelcaaaWInvWords
import Derived.Test.YtjoogkpakelcaaaWGuard
import Derived.Test.YtjoogkpakelcaaaWNEv
import Derived.Test.YtjoogkpakelcaaaWMore
namespace Go.Proofs.Ytjoogkpakelcaaa.G
open Go.RowKit Go.Proofs.YtjoogkpakelcaaaW.PrintWords Go.Proofs.YtjoogkpakelcaaaW.PrintLast Go.Proofs.YtjoogkpakelcaaaW.PrintMore
attribute [local go_sem] max2_int min2_int max_two min_two max_three min_three max_four min_four emod_u8 emod_u16 emod_u32
set_option linter.unusedVariables false
set_option linter.unusedSimpArgs false



def errW : Option Int → Value
  | none => .nilIface
  | some c => .iface 0 (.int .i64 c)
theorem errW_none : errW none = .nilIface := rfl
theorem errW_some (c : Int) : errW (some c) = .iface 0 (.int .i64 c) := rfl

theorem info5 : (Try.prog.info? 5).map (fun i => (i.zero, i.size, i.bytes)) = some (some (.int .u8 0), 1, 1) := by kernel_rfl
theorem info21 : (Try.prog.info? 21).map (fun i => (i.zero, i.size, i.bytes)) = some (some (.int .i32 0), 1, 4) := by kernel_rfl
-- the values' own types

end Go.Proofs.Ytjoogkpakelcaaa.G
