/-
  What this session proved by hand beside the print, for the seat of the chapter on records: the contracts of PutSlot, TakeSlot, PutCap with a fixed number of rounds.
-/
import Derived.Test.YtapfidadgafpbaaA1
namespace Go.Proofs.Ytapfidadgafpbaa.G
set_option linter.unusedVariables false
open Go.RowKit
def xPutSlot.f (i c e n : Int) : Option (ByteArray × Int) := write_slot.f 40 i c e n
theorem xPutSlot.calls (i c e n : Int) (r : ByteArray) (m : Int) (w : World) (h : xPutSlot.f i c e n = some (r, m)) :
    Calls Try.prog 14 #[slotV i c e n] w fun e w' => e = .returned (.tuple #[.string r, .int .i64 m]) ∧ Below w.heap.size w w' := rec_PutSlot.calls 40 i c e n r m w h
def xTakeSlot.f (id : Int) (s : ByteArray) : Option (Int × Int × Int × Int × Int) := rec_TakeSlot.f 40 id s
def xPutCap.f (xa xb xc xd xe xf xg xh xi : Int) (xj : Bool) : Option (ByteArray × Int) := write_cap.f 40 xa xb xc xd xe xf xg xh xi xj
theorem xPutCap.calls (xa xb xc xd xe xf xg xh xi : Int) (xj : Bool) (r : ByteArray) (m : Int) (w : World) (h : xPutCap.f xa xb xc xd xe xf xg xh xi xj = some (r, m)) :
    Calls Try.prog 19 #[capV xa xb xc xd xe xf xg xh xi xj] w fun e w' => e = .returned (.tuple #[.string r, .int .i64 m]) ∧ Below w.heap.size w w' := rec_PutCap.calls 40 xa xb xc xd xe xf xg xh xi xj r m w h
end Go.Proofs.Ytapfidadgafpbaa.G
