-- Written by a program of this session (gp.py), which drives the print with some lines turned. Not trusted: Lean checks it.
import Derived.Test.YtipfiodeakapdaaDoorProg
import Derived.Below
import Derived.Deep.Draws
import Derived.Deep.AppendLies
import Derived.Maps.AppendAt
import Derived.OwnWalk
import Derived.Laws.BytesArg
import Derived.Laws.MakeOwn
import Derived.Laws.OwnMore
import Derived.Deep.OwnRows
import Derived.Tactics
import Derived.Lib.ConvBytes
import Derived.Laws.Slices
import Derived.WalkKit
import Derived.KernelRfl
import Derived.RowKit3
import Derived.Deep.LoopGhost
import Derived.Deep.QuietTactic
import Derived.BigQuiet
import Derived.WideLaws
import Derived.Deep.DeepCutAuto
import Derived.Deep.CutBlock
import Derived.Deep.RegionHeld3
import Derived.Laws.Rows
import Derived.Lib.AppendStr
import Derived.ArgAppend
import Derived.Laws.IdiomCopy
import Derived.OrdersHeld
import Derived.Laws.BitsLemmas
import Derived.RowKit
import Derived.Test.YtipfiodeakapdaaDoorPx1
import Derived.Test.YtipfiodeakapdaaDoorR2
import Derived.Test.YtipfiodeakapdaaDoorA0
import Derived.Test.YtipfiodeakapdaaDoorWWords
import Derived.Test.YtipfiodeakapdaaDoorWLast
import Derived.Test.YtipfiodeakapdaaDoorWTab
import Derived.Test.YtipfiodeakapdaaDoorWFour
import Derived.Test.YtipfiodeakapdaaDoorWQPut
import Derived.Test.YtipfiodeakapdaaDoorWApart
import Derived.Test.YtipfiodeakapdaaDoorWArr
import Derived.Test.YtipfiodeakapdaaDoorWZeros
import Derived.Test.YtipfiodeakapdaaDoorWFoot
import Derived.Test.YtipfiodeakapdaaDoorWKept
import Derived.Test.YtipfiodeakapdaaDoorWShare
import Derived.Test.YtipfiodeakapdaaDoorWN
import Derived.Test.YtipfiodeakapdaaDoorWFootNe
import Derived.Test.YtipfiodeakapdaaDoorWAt
import Derived.Test.YtipfiodeakapdaaDoorWEqStruct
import Derived.Test.YtipfiodeakapdaaDoorWRepsOne
import Derived.Test.YtipfiodeakapdaaDoorWInv
import Derived.Test.YtipfiodeakapdaaDoorWInvWords
import Derived.Test.YtipfiodeakapdaaDoorWGuard
import Derived.Test.YtipfiodeakapdaaDoorWNEv
import Derived.Test.YtipfiodeakapdaaDoorWMore
namespace Go.Proofs.YtipfiodeakapdaaDoor.O
open Go.RowKit Go.Proofs.YtipfiodeakapdaaDoorW.PrintWords Go.Proofs.YtipfiodeakapdaaDoorW.PrintLast Go.Proofs.YtipfiodeakapdaaDoorW.PrintMore
attribute [local go_sem] max2_int min2_int max_two min_two max_three min_three max_four min_four P.emod_u8 P.emod_u16 P.emod_u32
set_option linter.unusedVariables false
set_option linter.unusedSimpArgs false



def errW : Option Int → Value
  | none => .nilIface
  | some c => .iface 0 (.int .i64 c)
theorem errW_none : errW none = .nilIface := rfl
theorem errW_some (c : Int) : errW (some c) = .iface 0 (.int .i64 c) := rfl

theorem info5 : (Tryd.prog.info? 5).map (fun i => (i.zero, i.size, i.bytes)) = some (some (.int .u8 0), 1, 1) := by kernel_rfl
theorem info9 : (Tryd.prog.info? 9).map (fun i => (i.zero, i.size, i.bytes)) = some (some (.string ⟨#[]⟩), 1, 16) := by kernel_rfl
-- the values' own types

end Go.Proofs.YtipfiodeakapdaaDoor.O
