/-
  What the chapter's examples come to, on the disk's states.
-/
import Derived.Test.YtnffhdlkkfphbaaDc
namespace Go.Proofs.Ytnffhdlkkfphbaa.D
set_option linter.unusedVariables false
set_option linter.unusedSimpArgs false
open Go.RowKit Go.Proofs.YtnffhdlkkfphbaaW.PrintWords Go.Proofs.YtnffhdlkkfphbaaW.PrintLast Go.Proofs.YtnffhdlkkfphbaaW.PrintMore
open Go.Lib (hid)
def ex0 (Z : ByteArray) : St := { now := List.replicate 8 Z, loose := [], fuse := -1, gone := false }
def ex1 (Z x : ByteArray) : St := { now := (List.replicate 8 Z).set 3 x, loose := [(3, Z)], fuse := -1, gone := false }
def ex2 (Z x : ByteArray) : St := { now := crashN [(3, Z)] [] ((List.replicate 8 Z).set 3 x) 1, loose := [], fuse := -1, gone := false }
theorem ex_write (Z x : ByteArray) (h : x.size = 256) : writes (ex0 Z) 3 x = (0, ex1 Z x) := by
  unfold writes ex0 ex1
  simp [h, hasS]
  decide
theorem ex_read1 (Z x : ByteArray) : reads (ex1 Z x) 3 = (x, 0) := by
  unfold reads ex1
  simp
theorem ex_read2 (Z x : ByteArray) : reads (ex2 Z x) 3 = (Z, 0) := by
  unfold reads ex2
  simp [crashN, lets, getS]
end Go.Proofs.Ytnffhdlkkfphbaa.D
