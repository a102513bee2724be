/-
  The walk of the reference's Fold: a row of bytes, each made small in place.
-/
import Derived.Test.YtapfidadgafpbaaOx1
import Derived.Test.YtapfidadgafpbaaM0
namespace Go.Proofs.Ytapfidadgafpbaa.R
set_option linter.unusedVariables false
set_option linter.unusedSimpArgs false
open Go.RowKit Go.Proofs.Ytapfidadgafpbaa.M Go.Proofs.YtapfidadgafpbaaW.PrintWords Go.Proofs.YtapfidadgafpbaaW.PrintLast Go.Proofs.YtapfidadgafpbaaW.PrintMore
open Go.Lib (hid)
def lowU (c : UInt8) : UInt8 := if 65 ≤ c.toNat ∧ c.toNat ≤ 90 then UInt8.ofNat (c.toNat + 32) else c
def lowS (s : ByteArray) : ByteArray := ⟨(s.data.toList.map lowU).toArray⟩
theorem RFold.no (k : Nat) (s : ByteArray) (w : World) (h : O.bailiwickref02_Right.f k s = some false) :
    Calls Try.prog 48 #[.string s] w fun e w' => e = .returned (.tuple #[.string ⟨#[]⟩, .bool false]) ∧ Below w.heap.size w w' := by
  have HR := hid (fun W => O.bailiwickref02_Right.calls k s false W h)
  clear h
  go_enter Try.func48, Try.ntmps48
  go_wp2_with fail
  refine (HR _).mono ?_
  rintro e w1 ⟨rfl, b1⟩
  go_wp2_with fail
  go_ret2
  exact ⟨rfl, b1⟩
def RFold.f (s : ByteArray) : Option (ByteArray × Bool) := (O.bailiwickref02_Right.f 40 s).bind fun b => if b = true then (if s.size ≤ 1000 then some (lowS s, true) else none) else some (⟨#[]⟩, false)
end Go.Proofs.Ytapfidadgafpbaa.R
