/-
  The chapter's examples hold.
-/
import Derived.Test.YtnffhdlkkfphbaaGx1
namespace Go.Proofs.Ytnffhdlkkfphbaa.Pure
open Go.Proofs.Ytnffhdlkkfphbaa.G
theorem ex_eq : bailiwicklaw07_examples.f 10 = some true := by decide +kernel
end Go.Proofs.Ytnffhdlkkfphbaa.Pure
