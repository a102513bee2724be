/-
  No cell of these rows narrows 'for every input' (looked for: loops, veiled, ifaces, maps, wideKeys, modest, calm, conditions, laid).
  DERIVED. THE GIVEN ROWS OF THIS SEAT. 7 by the template 'for every input the law returns true; each argument reads behind the call as it read before'; 0 by the template 'total and deterministic' (their statements: YtbneljnmhofjfaaTotals.lean).
  GIVEN WITH THE SEED: the statements are not yours to turn. If you find one false, say at which input.
  Laid BY PROGRAM, IN A SANDBOX (cutbox-rows.mjs): the forced cells as the released guide's own fill.sh prints them over the translation 596e1d73dfb7cc15… (all of the seat's roots in one cut). By AI agents, Wed Nov 11 2026. No macro, syntax, notation, axiom, sorry.
-/
import Derived.Test.YtbneljnmhofjfaaChecked
import GoSem.Claim
import GoSem.ClaimJoined
import GoSem.ClaimMapViews
import Derived.JoinedTies
import Derived.KernelRfl
namespace Go.Proofs.Ytbneljnmhofjfaa
/- THE CELL 'sum', in the pinned program and in every row, IS THE sha256 OF THE DUMP (.gsa) THAT YtbneljnmhofjfaaProg.lean LOADS. Nothing in Lean hashes anything: it is a label: what it is worth is what the hold of that sum in a sandbox is worth. -/
noncomputable def Try.pinned : Pinned := { name := "ytbneljnmhofjfaa", sum := "596e1d73dfb7cc1533e9206487c9ae68b8d94964ea51a159a67fc1536567f154", checked := Try.checked }
namespace Rows
def none {H : Type} : Left H := { results := [], args := [] }

/-- 'bailiwicklaw08.BitsSets': WHATEVER THE INPUT: true; the input reads as it did. -/
def bitsSetsSpec : ChangeSpec := { name := "bitsSets", fn := fun _ => fun
  | [d1, d2, d3, d4] => { results := [.lit (.bool true)], args := [d1, d2, d3, d4] }
  | _ => none }
def bitsSetsRow : OpenClaim := { program := "ytbneljnmhofjfaa", sum := "596e1d73dfb7cc1533e9206487c9ae68b8d94964ea51a159a67fc1536567f154", func := "bailiwick/bailiwicklaw08.BitsSets", spec := "bitsSets", inPlace := ["internal/abi.NoEscape", "internal/bytealg.MakeNoZero"], apart := false }
def BitsSetsSaid : Prop := bitsSetsRow.holds Try.pinned (OpenSpec.ofChange bitsSetsSpec)

/-- ITS FALSE NEIGHBOUR: 'it returns false'. Refute it at one input. -/
def bitsSetsWrong : ChangeSpec := { name := "bitsSets", fn := fun _ => fun
  | [d1, d2, d3, d4] => { results := [.lit (.bool false)], args := [d1, d2, d3, d4] }
  | _ => none }
def BitsSetsWrongFalsely : Prop := bitsSetsRow.holds Try.pinned (OpenSpec.ofChange bitsSetsWrong)

/-- 'bailiwicklaw08.BitsFirst': WHATEVER THE INPUT: true; the input reads as it did. -/
def bitsFirstSpec : ChangeSpec := { name := "bitsFirst", fn := fun _ => fun
  | [d1, d2] => { results := [.lit (.bool true)], args := [d1, d2] }
  | _ => none }
def bitsFirstRow : OpenClaim := { program := "ytbneljnmhofjfaa", sum := "596e1d73dfb7cc1533e9206487c9ae68b8d94964ea51a159a67fc1536567f154", func := "bailiwick/bailiwicklaw08.BitsFirst", spec := "bitsFirst", inPlace := ["internal/abi.NoEscape", "internal/bytealg.MakeNoZero"], apart := false }
def BitsFirstSaid : Prop := bitsFirstRow.holds Try.pinned (OpenSpec.ofChange bitsFirstSpec)

/-- ITS FALSE NEIGHBOUR: 'it returns false'. Refute it at one input. -/
def bitsFirstWrong : ChangeSpec := { name := "bitsFirst", fn := fun _ => fun
  | [d1, d2] => { results := [.lit (.bool false)], args := [d1, d2] }
  | _ => none }
def BitsFirstWrongFalsely : Prop := bitsFirstRow.holds Try.pinned (OpenSpec.ofChange bitsFirstWrong)

/-- 'bailiwicklaw08.BitsWith': WHATEVER THE INPUT: true; the input reads as it did. -/
def bitsWithSpec : ChangeSpec := { name := "bitsWith", fn := fun _ => fun
  | [d1, d2, d3] => { results := [.lit (.bool true)], args := [d1, d2, d3] }
  | _ => none }
def bitsWithRow : OpenClaim := { program := "ytbneljnmhofjfaa", sum := "596e1d73dfb7cc1533e9206487c9ae68b8d94964ea51a159a67fc1536567f154", func := "bailiwick/bailiwicklaw08.BitsWith", spec := "bitsWith", inPlace := ["internal/abi.NoEscape", "internal/bytealg.MakeNoZero"], apart := false }
def BitsWithSaid : Prop := bitsWithRow.holds Try.pinned (OpenSpec.ofChange bitsWithSpec)

/-- ITS FALSE NEIGHBOUR: 'it returns false'. Refute it at one input. -/
def bitsWithWrong : ChangeSpec := { name := "bitsWith", fn := fun _ => fun
  | [d1, d2, d3] => { results := [.lit (.bool false)], args := [d1, d2, d3] }
  | _ => none }
def BitsWithWrongFalsely : Prop := bitsWithRow.holds Try.pinned (OpenSpec.ofChange bitsWithWrong)

/-- 'bailiwicklaw08.BitsNew': WHATEVER THE INPUT: true; the input reads as it did. -/
def bitsNewSpec : ChangeSpec := { name := "bitsNew", fn := fun _ => fun
  | [d1, d2] => { results := [.lit (.bool true)], args := [d1, d2] }
  | _ => none }
def bitsNewRow : OpenClaim := { program := "ytbneljnmhofjfaa", sum := "596e1d73dfb7cc1533e9206487c9ae68b8d94964ea51a159a67fc1536567f154", func := "bailiwick/bailiwicklaw08.BitsNew", spec := "bitsNew", inPlace := ["internal/abi.NoEscape", "internal/bytealg.MakeNoZero"], apart := false }
def BitsNewSaid : Prop := bitsNewRow.holds Try.pinned (OpenSpec.ofChange bitsNewSpec)

/-- ITS FALSE NEIGHBOUR: 'it returns false'. Refute it at one input. -/
def bitsNewWrong : ChangeSpec := { name := "bitsNew", fn := fun _ => fun
  | [d1, d2] => { results := [.lit (.bool false)], args := [d1, d2] }
  | _ => none }
def BitsNewWrongFalsely : Prop := bitsNewRow.holds Try.pinned (OpenSpec.ofChange bitsNewWrong)

/-- 'bailiwicklaw08.BitsFills': WHATEVER THE INPUT: true; the input reads as it did. -/
def bitsFillsSpec : ChangeSpec := { name := "bitsFills", fn := fun _ => fun
  | [d1, d2] => { results := [.lit (.bool true)], args := [d1, d2] }
  | _ => none }
def bitsFillsRow : OpenClaim := { program := "ytbneljnmhofjfaa", sum := "596e1d73dfb7cc1533e9206487c9ae68b8d94964ea51a159a67fc1536567f154", func := "bailiwick/bailiwicklaw08.BitsFills", spec := "bitsFills", inPlace := ["internal/abi.NoEscape", "internal/bytealg.MakeNoZero"], apart := false }
def BitsFillsSaid : Prop := bitsFillsRow.holds Try.pinned (OpenSpec.ofChange bitsFillsSpec)

/-- ITS FALSE NEIGHBOUR: 'it returns false'. Refute it at one input. -/
def bitsFillsWrong : ChangeSpec := { name := "bitsFills", fn := fun _ => fun
  | [d1, d2] => { results := [.lit (.bool false)], args := [d1, d2] }
  | _ => none }
def BitsFillsWrongFalsely : Prop := bitsFillsRow.holds Try.pinned (OpenSpec.ofChange bitsFillsWrong)

/-- 'bailiwicklaw08.BitsBoth': WHATEVER THE INPUT: true; the input reads as it did. -/
def bitsBothSpec : ChangeSpec := { name := "bitsBoth", fn := fun _ => fun
  | [d1, d2] => { results := [.lit (.bool true)], args := [d1, d2] }
  | _ => none }
def bitsBothRow : OpenClaim := { program := "ytbneljnmhofjfaa", sum := "596e1d73dfb7cc1533e9206487c9ae68b8d94964ea51a159a67fc1536567f154", func := "bailiwick/bailiwicklaw08.BitsBoth", spec := "bitsBoth", inPlace := ["internal/abi.NoEscape", "internal/bytealg.MakeNoZero"], unfollowed := true, recurses := true, apart := false }
def BitsBothSaid : Prop := bitsBothRow.holds Try.pinned (OpenSpec.ofChange bitsBothSpec)

/-- ITS FALSE NEIGHBOUR: 'it returns false'. Refute it at one input. -/
def bitsBothWrong : ChangeSpec := { name := "bitsBoth", fn := fun _ => fun
  | [d1, d2] => { results := [.lit (.bool false)], args := [d1, d2] }
  | _ => none }
def BitsBothWrongFalsely : Prop := bitsBothRow.holds Try.pinned (OpenSpec.ofChange bitsBothWrong)

/-- 'bailiwicklaw08.BitsAlgebra': WHATEVER THE INPUT: true; the input reads as it did. -/
def bitsAlgebraSpec : ChangeSpec := { name := "bitsAlgebra", fn := fun _ => fun
  | [d1, d2] => { results := [.lit (.bool true)], args := [d1, d2] }
  | _ => none }
def bitsAlgebraRow : OpenClaim := { program := "ytbneljnmhofjfaa", sum := "596e1d73dfb7cc1533e9206487c9ae68b8d94964ea51a159a67fc1536567f154", func := "bailiwick/bailiwicklaw08.BitsAlgebra", spec := "bitsAlgebra", inPlace := ["internal/abi.NoEscape", "internal/bytealg.MakeNoZero"], unfollowed := true, recurses := true, apart := false }
def BitsAlgebraSaid : Prop := bitsAlgebraRow.holds Try.pinned (OpenSpec.ofChange bitsAlgebraSpec)

/-- ITS FALSE NEIGHBOUR: 'it returns false'. Refute it at one input. -/
def bitsAlgebraWrong : ChangeSpec := { name := "bitsAlgebra", fn := fun _ => fun
  | [d1, d2] => { results := [.lit (.bool false)], args := [d1, d2] }
  | _ => none }
def BitsAlgebraWrongFalsely : Prop := bitsAlgebraRow.holds Try.pinned (OpenSpec.ofChange bitsAlgebraWrong)

/- THE SECOND FORM. 'bulk': how many values and letters a reading holds, each counted each time it is reached (what is shared counts as often as it is met; a slice's spare places count too). A statement '..UptoSaid' is the law's where the arguments, and the package variables that the reading takes, are together of bulk at most 1048576: NARROWER than '..Said'. Prove '..Said' where nothing that the law and all that it calls make is longer than what came in: it says more and counts as full. Else prove '..UptoSaid'. A law counts once. -/
mutual
def uptoBulk {H : Type} : DataW H → Nat
  | .lit (.string bytes) => bytes.length + 1
  | .lit _ => 1
  | .nil => 1
  | .ptr d => uptoBulk d + 1
  | .slice elems spare => uptoBulkAll elems + uptoBulkAll spare + 1
  | .agg parts => uptoBulkAll parts + 1
  | .iface _ d => uptoBulk d + 1
  | .map entries => uptoBulkEntries entries + 1
  | .held _ => 1
def uptoBulkAll {H : Type} : List (DataW H) → Nat
  | [] => 0
  | d :: r => uptoBulk d + uptoBulkAll r
def uptoBulkEntries {H : Type} : List (Lit × DataW H) → Nat
  | [] => 0
  | x :: r => uptoBulkEntry x + uptoBulkEntries r
def uptoBulkEntry {H : Type} : Lit × DataW H → Nat
  | (.string bytes, d) => bytes.length + uptoBulk d + 1
  | (_, d) => uptoBulk d + 1
 end
def uptoSmall : (H : Type) → List (DataW H) → Bool := fun _ ds => decide (uptoBulkAll ds ≤ 1048576)
def OpenSpec.upto (s : _root_.Go.ChangeSpec) : _root_.Go.OpenSpec := { _root_.Go.OpenSpec.ofChange s with cond := some uptoSmall }

/-- 'bailiwicklaw08.BitsSets', WHERE WHAT IT READS IS OF BULK AT MOST 1048576: true; the input reads as it did. -/
def bitsSetsUptoRow : OpenClaim := { program := "ytbneljnmhofjfaa", sum := "596e1d73dfb7cc1533e9206487c9ae68b8d94964ea51a159a67fc1536567f154", func := "bailiwick/bailiwicklaw08.BitsSets", spec := "bitsSets", inPlace := ["internal/abi.NoEscape", "internal/bytealg.MakeNoZero"], apart := false, narrowed := true }
def BitsSetsUptoSaid : Prop := bitsSetsUptoRow.holds Try.pinned (OpenSpec.upto bitsSetsSpec)

/-- 'bailiwicklaw08.BitsFirst', WHERE WHAT IT READS IS OF BULK AT MOST 1048576: true; the input reads as it did. -/
def bitsFirstUptoRow : OpenClaim := { program := "ytbneljnmhofjfaa", sum := "596e1d73dfb7cc1533e9206487c9ae68b8d94964ea51a159a67fc1536567f154", func := "bailiwick/bailiwicklaw08.BitsFirst", spec := "bitsFirst", inPlace := ["internal/abi.NoEscape", "internal/bytealg.MakeNoZero"], apart := false, narrowed := true }
def BitsFirstUptoSaid : Prop := bitsFirstUptoRow.holds Try.pinned (OpenSpec.upto bitsFirstSpec)

/-- 'bailiwicklaw08.BitsWith', WHERE WHAT IT READS IS OF BULK AT MOST 1048576: true; the input reads as it did. -/
def bitsWithUptoRow : OpenClaim := { program := "ytbneljnmhofjfaa", sum := "596e1d73dfb7cc1533e9206487c9ae68b8d94964ea51a159a67fc1536567f154", func := "bailiwick/bailiwicklaw08.BitsWith", spec := "bitsWith", inPlace := ["internal/abi.NoEscape", "internal/bytealg.MakeNoZero"], apart := false, narrowed := true }
def BitsWithUptoSaid : Prop := bitsWithUptoRow.holds Try.pinned (OpenSpec.upto bitsWithSpec)

/-- 'bailiwicklaw08.BitsNew', WHERE WHAT IT READS IS OF BULK AT MOST 1048576: true; the input reads as it did. -/
def bitsNewUptoRow : OpenClaim := { program := "ytbneljnmhofjfaa", sum := "596e1d73dfb7cc1533e9206487c9ae68b8d94964ea51a159a67fc1536567f154", func := "bailiwick/bailiwicklaw08.BitsNew", spec := "bitsNew", inPlace := ["internal/abi.NoEscape", "internal/bytealg.MakeNoZero"], apart := false, narrowed := true }
def BitsNewUptoSaid : Prop := bitsNewUptoRow.holds Try.pinned (OpenSpec.upto bitsNewSpec)

/-- 'bailiwicklaw08.BitsFills', WHERE WHAT IT READS IS OF BULK AT MOST 1048576: true; the input reads as it did. -/
def bitsFillsUptoRow : OpenClaim := { program := "ytbneljnmhofjfaa", sum := "596e1d73dfb7cc1533e9206487c9ae68b8d94964ea51a159a67fc1536567f154", func := "bailiwick/bailiwicklaw08.BitsFills", spec := "bitsFills", inPlace := ["internal/abi.NoEscape", "internal/bytealg.MakeNoZero"], apart := false, narrowed := true }
def BitsFillsUptoSaid : Prop := bitsFillsUptoRow.holds Try.pinned (OpenSpec.upto bitsFillsSpec)

/-- 'bailiwicklaw08.BitsBoth', WHERE WHAT IT READS IS OF BULK AT MOST 1048576: true; the input reads as it did. -/
def bitsBothUptoRow : OpenClaim := { program := "ytbneljnmhofjfaa", sum := "596e1d73dfb7cc1533e9206487c9ae68b8d94964ea51a159a67fc1536567f154", func := "bailiwick/bailiwicklaw08.BitsBoth", spec := "bitsBoth", inPlace := ["internal/abi.NoEscape", "internal/bytealg.MakeNoZero"], unfollowed := true, recurses := true, apart := false, narrowed := true }
def BitsBothUptoSaid : Prop := bitsBothUptoRow.holds Try.pinned (OpenSpec.upto bitsBothSpec)

/-- 'bailiwicklaw08.BitsAlgebra', WHERE WHAT IT READS IS OF BULK AT MOST 1048576: true; the input reads as it did. -/
def bitsAlgebraUptoRow : OpenClaim := { program := "ytbneljnmhofjfaa", sum := "596e1d73dfb7cc1533e9206487c9ae68b8d94964ea51a159a67fc1536567f154", func := "bailiwick/bailiwicklaw08.BitsAlgebra", spec := "bitsAlgebra", inPlace := ["internal/abi.NoEscape", "internal/bytealg.MakeNoZero"], unfollowed := true, recurses := true, apart := false, narrowed := true }
def BitsAlgebraUptoSaid : Prop := bitsAlgebraUptoRow.holds Try.pinned (OpenSpec.upto bitsAlgebraSpec)

end Rows
end Go.Proofs.Ytbneljnmhofjfaa
