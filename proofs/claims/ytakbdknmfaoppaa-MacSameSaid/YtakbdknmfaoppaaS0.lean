/-
  Three facts that the printed walks take as rules.
-/
import Derived.WalkKit
namespace Go.Proofs.Ytakbdknmfaoppaa.P
theorem emod_u8 (n : Int) : 0 ≤ n % 256 := by omega
theorem emod_u16 (n : Int) : 0 ≤ n % 65536 := by omega
theorem emod_u32 (n : Int) : 0 ≤ n % 4294967296 := by omega
theorem xmax32 : (if IntKind.u32.signed = true then (-1 : Int) else IntKind.u32.max) = 4294967295 := by decide
theorem u32w (n : Int) : IntKind.u32.wrap n = n % 4294967296 := by simp [IntKind.wrap, IntKind.signed, IntKind.bits]
theorem u8w (n : Int) : IntKind.u8.wrap n = n % 256 := by simp [IntKind.wrap, IntKind.signed, IntKind.bits]
theorem u64ww (n : Int) : IntKind.u64.wrap (8 * IntKind.u64.wrap n) = IntKind.u64.wrap (8 * n) := by simp [IntKind.wrap, IntKind.signed, IntKind.bits]; omega
end Go.Proofs.Ytakbdknmfaoppaa.P
