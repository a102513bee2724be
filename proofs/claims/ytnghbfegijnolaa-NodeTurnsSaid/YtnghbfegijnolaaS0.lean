/-
  Three facts that the printed walks take as rules.
-/
import Derived.WalkKit
namespace Go.Proofs.Ytnghbfegijnolaa.P
theorem emod_u8 (n : Int) : 0 ≤ n % 256 := by omega
theorem emod_u16 (n : Int) : 0 ≤ n % 65536 := by omega
theorem emod_u32 (n : Int) : 0 ≤ n % 4294967296 := by omega
end Go.Proofs.Ytnghbfegijnolaa.P
