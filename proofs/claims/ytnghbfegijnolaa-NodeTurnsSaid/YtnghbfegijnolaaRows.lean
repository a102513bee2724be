/-
  No cell of these rows narrows 'for every input' (looked for: loops, veiled, ifaces, maps, wideKeys, modest, calm, conditions, laid).
  DERIVED. THE GIVEN ROWS OF THIS SEAT. 7 by the template 'for every input the law returns true; each argument reads behind the call as it read before'; 0 by the template 'total and deterministic' (their statements: YtnghbfegijnolaaTotals.lean).
  GIVEN WITH THE SEED: the statements are not yours to turn. If you find one false, say at which input.
  Laid BY PROGRAM, IN A SANDBOX (cutbox-rows.mjs): the forced cells as the released guide's own fill.sh prints them over the translation b5e439f71e63fc73… (all of the seat's roots in one cut). By AI agents, Wed Nov 11 2026. No macro, syntax, notation, axiom, sorry.
-/
import Derived.Test.YtnghbfegijnolaaChecked
import GoSem.Claim
import GoSem.ClaimJoined
import GoSem.ClaimMapViews
import Derived.JoinedTies
import Derived.KernelRfl
namespace Go.Proofs.Ytnghbfegijnolaa
/- THE CELL 'sum', in the pinned program and in every row, IS THE sha256 OF THE DUMP (.gsa) THAT YtnghbfegijnolaaProg.lean LOADS. Nothing in Lean hashes anything: it is a label: what it is worth is what the hold of that sum in a sandbox is worth. -/
noncomputable def Try.pinned : Pinned := { name := "ytnghbfegijnolaa", sum := "b5e439f71e63fc73dcaeec13ab9cff40979d02a66a62b68b3df1221bff07f748", checked := Try.checked }
namespace Rows
def none {H : Type} : Left H := { results := [], args := [] }

/-- 'bailiwicklaw10.NodeHangs': WHATEVER THE INPUT: true; the input reads as it did. -/
def nodeHangsSpec : ChangeSpec := { name := "nodeHangs", fn := fun _ => fun
  | [d1, d2] => { results := [.lit (.bool true)], args := [d1, d2] }
  | _ => none }
def nodeHangsRow : OpenClaim := { program := "ytnghbfegijnolaa", sum := "b5e439f71e63fc73dcaeec13ab9cff40979d02a66a62b68b3df1221bff07f748", func := "bailiwick/bailiwicklaw10.NodeHangs", spec := "nodeHangs", inPlace := ["internal/abi.NoEscape"], unfollowed := true, recurses := true, apart := false }
def NodeHangsSaid : Prop := nodeHangsRow.holds Try.pinned (OpenSpec.ofChange nodeHangsSpec)

/-- ITS FALSE NEIGHBOUR: 'it returns false'. Refute it at one input. -/
def nodeHangsWrong : ChangeSpec := { name := "nodeHangs", fn := fun _ => fun
  | [d1, d2] => { results := [.lit (.bool false)], args := [d1, d2] }
  | _ => none }
def NodeHangsWrongFalsely : Prop := nodeHangsRow.holds Try.pinned (OpenSpec.ofChange nodeHangsWrong)

/-- 'bailiwicklaw10.NodeBack': WHATEVER THE INPUT: true; the input reads as it did. -/
def nodeBackSpec : ChangeSpec := { name := "nodeBack", fn := fun _ => fun
  | [d1, d2] => { results := [.lit (.bool true)], args := [d1, d2] }
  | _ => none }
def nodeBackRow : OpenClaim := { program := "ytnghbfegijnolaa", sum := "b5e439f71e63fc73dcaeec13ab9cff40979d02a66a62b68b3df1221bff07f748", func := "bailiwick/bailiwicklaw10.NodeBack", spec := "nodeBack", inPlace := ["internal/abi.NoEscape"], unfollowed := true, recurses := true, apart := false }
def NodeBackSaid : Prop := nodeBackRow.holds Try.pinned (OpenSpec.ofChange nodeBackSpec)

/-- ITS FALSE NEIGHBOUR: 'it returns false'. Refute it at one input. -/
def nodeBackWrong : ChangeSpec := { name := "nodeBack", fn := fun _ => fun
  | [d1, d2] => { results := [.lit (.bool false)], args := [d1, d2] }
  | _ => none }
def NodeBackWrongFalsely : Prop := nodeBackRow.holds Try.pinned (OpenSpec.ofChange nodeBackWrong)

/-- 'bailiwicklaw10.NodeKeys': WHATEVER THE INPUT: true; the input reads as it did. -/
def nodeKeysSpec : ChangeSpec := { name := "nodeKeys", fn := fun _ => fun
  | [d1, d2, d3] => { results := [.lit (.bool true)], args := [d1, d2, d3] }
  | _ => none }
def nodeKeysRow : OpenClaim := { program := "ytnghbfegijnolaa", sum := "b5e439f71e63fc73dcaeec13ab9cff40979d02a66a62b68b3df1221bff07f748", func := "bailiwick/bailiwicklaw10.NodeKeys", spec := "nodeKeys", inPlace := ["internal/abi.NoEscape"], unfollowed := true, recurses := true, apart := false }
def NodeKeysSaid : Prop := nodeKeysRow.holds Try.pinned (OpenSpec.ofChange nodeKeysSpec)

/-- ITS FALSE NEIGHBOUR: 'it returns false'. Refute it at one input. -/
def nodeKeysWrong : ChangeSpec := { name := "nodeKeys", fn := fun _ => fun
  | [d1, d2, d3] => { results := [.lit (.bool false)], args := [d1, d2, d3] }
  | _ => none }
def NodeKeysWrongFalsely : Prop := nodeKeysRow.holds Try.pinned (OpenSpec.ofChange nodeKeysWrong)

/-- 'bailiwicklaw10.NodeSizes': WHATEVER THE INPUT: true; the input reads as it did. -/
def nodeSizesSpec : ChangeSpec := { name := "nodeSizes", fn := fun _ => fun
  | [d1, d2, d3] => { results := [.lit (.bool true)], args := [d1, d2, d3] }
  | _ => none }
def nodeSizesRow : OpenClaim := { program := "ytnghbfegijnolaa", sum := "b5e439f71e63fc73dcaeec13ab9cff40979d02a66a62b68b3df1221bff07f748", func := "bailiwick/bailiwicklaw10.NodeSizes", spec := "nodeSizes", inPlace := ["internal/abi.NoEscape"], unfollowed := true, recurses := true, apart := false }
def NodeSizesSaid : Prop := nodeSizesRow.holds Try.pinned (OpenSpec.ofChange nodeSizesSpec)

/-- ITS FALSE NEIGHBOUR: 'it returns false'. Refute it at one input. -/
def nodeSizesWrong : ChangeSpec := { name := "nodeSizes", fn := fun _ => fun
  | [d1, d2, d3] => { results := [.lit (.bool false)], args := [d1, d2, d3] }
  | _ => none }
def NodeSizesWrongFalsely : Prop := nodeSizesRow.holds Try.pinned (OpenSpec.ofChange nodeSizesWrong)

/-- 'bailiwicklaw10.NodeTurns': WHATEVER THE INPUT: true; the input reads as it did. -/
def nodeTurnsSpec : ChangeSpec := { name := "nodeTurns", fn := fun _ => fun
  | [d1, d2, d3, d4, d5] => { results := [.lit (.bool true)], args := [d1, d2, d3, d4, d5] }
  | _ => none }
def nodeTurnsRow : OpenClaim := { program := "ytnghbfegijnolaa", sum := "b5e439f71e63fc73dcaeec13ab9cff40979d02a66a62b68b3df1221bff07f748", func := "bailiwick/bailiwicklaw10.NodeTurns", spec := "nodeTurns", inPlace := ["internal/abi.NoEscape"], unfollowed := true, recurses := true, apart := false }
def NodeTurnsSaid : Prop := nodeTurnsRow.holds Try.pinned (OpenSpec.ofChange nodeTurnsSpec)

/-- ITS FALSE NEIGHBOUR: 'it returns false'. Refute it at one input. -/
def nodeTurnsWrong : ChangeSpec := { name := "nodeTurns", fn := fun _ => fun
  | [d1, d2, d3, d4, d5] => { results := [.lit (.bool false)], args := [d1, d2, d3, d4, d5] }
  | _ => none }
def NodeTurnsWrongFalsely : Prop := nodeTurnsRow.holds Try.pinned (OpenSpec.ofChange nodeTurnsWrong)

/-- 'bailiwicklaw10.NodeParts': WHATEVER THE INPUT: true; the input reads as it did. -/
def nodePartsSpec : ChangeSpec := { name := "nodeParts", fn := fun _ => fun
  | [d1, d2, d3] => { results := [.lit (.bool true)], args := [d1, d2, d3] }
  | _ => none }
def nodePartsRow : OpenClaim := { program := "ytnghbfegijnolaa", sum := "b5e439f71e63fc73dcaeec13ab9cff40979d02a66a62b68b3df1221bff07f748", func := "bailiwick/bailiwicklaw10.NodeParts", spec := "nodeParts", inPlace := ["internal/abi.NoEscape"], unfollowed := true, recurses := true, apart := false }
def NodePartsSaid : Prop := nodePartsRow.holds Try.pinned (OpenSpec.ofChange nodePartsSpec)

/-- ITS FALSE NEIGHBOUR: 'it returns false'. Refute it at one input. -/
def nodePartsWrong : ChangeSpec := { name := "nodeParts", fn := fun _ => fun
  | [d1, d2, d3] => { results := [.lit (.bool false)], args := [d1, d2, d3] }
  | _ => none }
def NodePartsWrongFalsely : Prop := nodePartsRow.holds Try.pinned (OpenSpec.ofChange nodePartsWrong)

/-- 'bailiwicklaw10.NodeHalves': WHATEVER THE INPUT: true; the input reads as it did. -/
def nodeHalvesSpec : ChangeSpec := { name := "nodeHalves", fn := fun _ => fun
  | [d1, d2] => { results := [.lit (.bool true)], args := [d1, d2] }
  | _ => none }
def nodeHalvesRow : OpenClaim := { program := "ytnghbfegijnolaa", sum := "b5e439f71e63fc73dcaeec13ab9cff40979d02a66a62b68b3df1221bff07f748", func := "bailiwick/bailiwicklaw10.NodeHalves", spec := "nodeHalves", inPlace := ["internal/abi.NoEscape"], unfollowed := true, recurses := true, apart := false }
def NodeHalvesSaid : Prop := nodeHalvesRow.holds Try.pinned (OpenSpec.ofChange nodeHalvesSpec)

/-- ITS FALSE NEIGHBOUR: 'it returns false'. Refute it at one input. -/
def nodeHalvesWrong : ChangeSpec := { name := "nodeHalves", fn := fun _ => fun
  | [d1, d2] => { results := [.lit (.bool false)], args := [d1, d2] }
  | _ => none }
def NodeHalvesWrongFalsely : Prop := nodeHalvesRow.holds Try.pinned (OpenSpec.ofChange nodeHalvesWrong)

/- THE SECOND FORM. 'bulk': how many values and letters a reading holds, each counted each time it is reached (what is shared counts as often as it is met; a slice's spare places count too). A statement '..UptoSaid' is the law's where the arguments, and the package variables that the reading takes, are together of bulk at most 1048576: NARROWER than '..Said'. Prove '..Said' where nothing that the law and all that it calls make is longer than what came in: it says more and counts as full. Else prove '..UptoSaid'. A law counts once. -/
mutual
def uptoBulk {H : Type} : DataW H → Nat
  | .lit (.string bytes) => bytes.length + 1
  | .lit _ => 1
  | .nil => 1
  | .ptr d => uptoBulk d + 1
  | .slice elems spare => uptoBulkAll elems + uptoBulkAll spare + 1
  | .agg parts => uptoBulkAll parts + 1
  | .iface _ d => uptoBulk d + 1
  | .map entries => uptoBulkEntries entries + 1
  | .held _ => 1
def uptoBulkAll {H : Type} : List (DataW H) → Nat
  | [] => 0
  | d :: r => uptoBulk d + uptoBulkAll r
def uptoBulkEntries {H : Type} : List (Lit × DataW H) → Nat
  | [] => 0
  | x :: r => uptoBulkEntry x + uptoBulkEntries r
def uptoBulkEntry {H : Type} : Lit × DataW H → Nat
  | (.string bytes, d) => bytes.length + uptoBulk d + 1
  | (_, d) => uptoBulk d + 1
 end
def uptoSmall : (H : Type) → List (DataW H) → Bool := fun _ ds => decide (uptoBulkAll ds ≤ 1048576)
def OpenSpec.upto (s : _root_.Go.ChangeSpec) : _root_.Go.OpenSpec := { _root_.Go.OpenSpec.ofChange s with cond := some uptoSmall }

/-- 'bailiwicklaw10.NodeHangs', WHERE WHAT IT READS IS OF BULK AT MOST 1048576: true; the input reads as it did. -/
def nodeHangsUptoRow : OpenClaim := { program := "ytnghbfegijnolaa", sum := "b5e439f71e63fc73dcaeec13ab9cff40979d02a66a62b68b3df1221bff07f748", func := "bailiwick/bailiwicklaw10.NodeHangs", spec := "nodeHangs", inPlace := ["internal/abi.NoEscape"], unfollowed := true, recurses := true, apart := false, narrowed := true }
def NodeHangsUptoSaid : Prop := nodeHangsUptoRow.holds Try.pinned (OpenSpec.upto nodeHangsSpec)

/-- 'bailiwicklaw10.NodeBack', WHERE WHAT IT READS IS OF BULK AT MOST 1048576: true; the input reads as it did. -/
def nodeBackUptoRow : OpenClaim := { program := "ytnghbfegijnolaa", sum := "b5e439f71e63fc73dcaeec13ab9cff40979d02a66a62b68b3df1221bff07f748", func := "bailiwick/bailiwicklaw10.NodeBack", spec := "nodeBack", inPlace := ["internal/abi.NoEscape"], unfollowed := true, recurses := true, apart := false, narrowed := true }
def NodeBackUptoSaid : Prop := nodeBackUptoRow.holds Try.pinned (OpenSpec.upto nodeBackSpec)

/-- 'bailiwicklaw10.NodeKeys', WHERE WHAT IT READS IS OF BULK AT MOST 1048576: true; the input reads as it did. -/
def nodeKeysUptoRow : OpenClaim := { program := "ytnghbfegijnolaa", sum := "b5e439f71e63fc73dcaeec13ab9cff40979d02a66a62b68b3df1221bff07f748", func := "bailiwick/bailiwicklaw10.NodeKeys", spec := "nodeKeys", inPlace := ["internal/abi.NoEscape"], unfollowed := true, recurses := true, apart := false, narrowed := true }
def NodeKeysUptoSaid : Prop := nodeKeysUptoRow.holds Try.pinned (OpenSpec.upto nodeKeysSpec)

/-- 'bailiwicklaw10.NodeSizes', WHERE WHAT IT READS IS OF BULK AT MOST 1048576: true; the input reads as it did. -/
def nodeSizesUptoRow : OpenClaim := { program := "ytnghbfegijnolaa", sum := "b5e439f71e63fc73dcaeec13ab9cff40979d02a66a62b68b3df1221bff07f748", func := "bailiwick/bailiwicklaw10.NodeSizes", spec := "nodeSizes", inPlace := ["internal/abi.NoEscape"], unfollowed := true, recurses := true, apart := false, narrowed := true }
def NodeSizesUptoSaid : Prop := nodeSizesUptoRow.holds Try.pinned (OpenSpec.upto nodeSizesSpec)

/-- 'bailiwicklaw10.NodeTurns', WHERE WHAT IT READS IS OF BULK AT MOST 1048576: true; the input reads as it did. -/
def nodeTurnsUptoRow : OpenClaim := { program := "ytnghbfegijnolaa", sum := "b5e439f71e63fc73dcaeec13ab9cff40979d02a66a62b68b3df1221bff07f748", func := "bailiwick/bailiwicklaw10.NodeTurns", spec := "nodeTurns", inPlace := ["internal/abi.NoEscape"], unfollowed := true, recurses := true, apart := false, narrowed := true }
def NodeTurnsUptoSaid : Prop := nodeTurnsUptoRow.holds Try.pinned (OpenSpec.upto nodeTurnsSpec)

/-- 'bailiwicklaw10.NodeParts', WHERE WHAT IT READS IS OF BULK AT MOST 1048576: true; the input reads as it did. -/
def nodePartsUptoRow : OpenClaim := { program := "ytnghbfegijnolaa", sum := "b5e439f71e63fc73dcaeec13ab9cff40979d02a66a62b68b3df1221bff07f748", func := "bailiwick/bailiwicklaw10.NodeParts", spec := "nodeParts", inPlace := ["internal/abi.NoEscape"], unfollowed := true, recurses := true, apart := false, narrowed := true }
def NodePartsUptoSaid : Prop := nodePartsUptoRow.holds Try.pinned (OpenSpec.upto nodePartsSpec)

/-- 'bailiwicklaw10.NodeHalves', WHERE WHAT IT READS IS OF BULK AT MOST 1048576: true; the input reads as it did. -/
def nodeHalvesUptoRow : OpenClaim := { program := "ytnghbfegijnolaa", sum := "b5e439f71e63fc73dcaeec13ab9cff40979d02a66a62b68b3df1221bff07f748", func := "bailiwick/bailiwicklaw10.NodeHalves", spec := "nodeHalves", inPlace := ["internal/abi.NoEscape"], unfollowed := true, recurses := true, apart := false, narrowed := true }
def NodeHalvesUptoSaid : Prop := nodeHalvesUptoRow.holds Try.pinned (OpenSpec.upto nodeHalvesSpec)

end Rows
end Go.Proofs.Ytnghbfegijnolaa
