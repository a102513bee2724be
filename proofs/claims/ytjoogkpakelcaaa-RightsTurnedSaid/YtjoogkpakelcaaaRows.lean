/-
  No cell of these rows narrows 'for every input' (looked for: loops, veiled, ifaces, maps, wideKeys, modest, calm, conditions, laid).
  DERIVED. THE GIVEN ROWS OF THIS SEAT. 6 by the template 'for every input the law returns true; each argument reads behind the call as it read before'; 0 by the template 'total and deterministic' (their statements: YtjoogkpakelcaaaTotals.lean).
  GIVEN WITH THE SEED: the statements are not yours to turn. If you find one false, say at which input.
  Laid BY PROGRAM, IN A SANDBOX (cutbox-rows.mjs): the forced cells as the released guide's own fill.sh prints them over the translation 58ccd896787ad61f… (all of the seat's roots in one cut). By AI agents, Wed Nov 11 2026. No macro, syntax, notation, axiom, sorry.
-/
import Derived.Test.YtjoogkpakelcaaaChecked
import GoSem.Claim
import GoSem.ClaimJoined
import GoSem.ClaimMapViews
import Derived.JoinedTies
import Derived.KernelRfl
namespace Go.Proofs.Ytjoogkpakelcaaa
/- THE CELL 'sum', in the pinned program and in every row, IS THE sha256 OF THE DUMP (.gsa) THAT YtjoogkpakelcaaaProg.lean LOADS. Nothing in Lean hashes anything: it is a label: what it is worth is what the hold of that sum in a sandbox is worth. -/
noncomputable def Try.pinned : Pinned := { name := "ytjoogkpakelcaaa", sum := "58ccd896787ad61f2fdd094293c6b31f8eedcb93147c9943be905bc98fd5c91b", checked := Try.checked }
namespace Rows
def none {H : Type} : Left H := { results := [], args := [] }

/-- 'bailiwicklaw05.RightsLetters': WHATEVER THE INPUT: true; the input reads as it did. -/
def rightsLettersSpec : ChangeSpec := { name := "rightsLetters", fn := fun _ => fun
  | [d1, d2] => { results := [.lit (.bool true)], args := [d1, d2] }
  | _ => none }
def rightsLettersRow : OpenClaim := { program := "ytjoogkpakelcaaa", sum := "58ccd896787ad61f2fdd094293c6b31f8eedcb93147c9943be905bc98fd5c91b", func := "bailiwick/bailiwicklaw05.RightsLetters", spec := "rightsLetters", apart := false }
def RightsLettersSaid : Prop := rightsLettersRow.holds Try.pinned (OpenSpec.ofChange rightsLettersSpec)

/-- ITS FALSE NEIGHBOUR: 'it returns false'. Refute it at one input. -/
def rightsLettersWrong : ChangeSpec := { name := "rightsLetters", fn := fun _ => fun
  | [d1, d2] => { results := [.lit (.bool false)], args := [d1, d2] }
  | _ => none }
def RightsLettersWrongFalsely : Prop := rightsLettersRow.holds Try.pinned (OpenSpec.ofChange rightsLettersWrong)

/-- 'bailiwicklaw05.RightsBack': WHATEVER THE INPUT: true; the input reads as it did. -/
def rightsBackSpec : ChangeSpec := { name := "rightsBack", fn := fun _ => fun
  | [d1, d2] => { results := [.lit (.bool true)], args := [d1, d2] }
  | _ => none }
def rightsBackRow : OpenClaim := { program := "ytjoogkpakelcaaa", sum := "58ccd896787ad61f2fdd094293c6b31f8eedcb93147c9943be905bc98fd5c91b", func := "bailiwick/bailiwicklaw05.RightsBack", spec := "rightsBack", apart := false }
def RightsBackSaid : Prop := rightsBackRow.holds Try.pinned (OpenSpec.ofChange rightsBackSpec)

/-- ITS FALSE NEIGHBOUR: 'it returns false'. Refute it at one input. -/
def rightsBackWrong : ChangeSpec := { name := "rightsBack", fn := fun _ => fun
  | [d1, d2] => { results := [.lit (.bool false)], args := [d1, d2] }
  | _ => none }
def RightsBackWrongFalsely : Prop := rightsBackRow.holds Try.pinned (OpenSpec.ofChange rightsBackWrong)

/-- 'bailiwicklaw05.RightsTurned': WHATEVER THE INPUT: true; the input reads as it did. -/
def rightsTurnedSpec : ChangeSpec := { name := "rightsTurned", fn := fun _ => fun
  | [d1, d2] => { results := [.lit (.bool true)], args := [d1, d2] }
  | _ => none }
def rightsTurnedRow : OpenClaim := { program := "ytjoogkpakelcaaa", sum := "58ccd896787ad61f2fdd094293c6b31f8eedcb93147c9943be905bc98fd5c91b", func := "bailiwick/bailiwicklaw05.RightsTurned", spec := "rightsTurned", apart := false }
def RightsTurnedSaid : Prop := rightsTurnedRow.holds Try.pinned (OpenSpec.ofChange rightsTurnedSpec)

/-- ITS FALSE NEIGHBOUR: 'it returns false'. Refute it at one input. -/
def rightsTurnedWrong : ChangeSpec := { name := "rightsTurned", fn := fun _ => fun
  | [d1, d2] => { results := [.lit (.bool false)], args := [d1, d2] }
  | _ => none }
def RightsTurnedWrongFalsely : Prop := rightsTurnedRow.holds Try.pinned (OpenSpec.ofChange rightsTurnedWrong)

/-- 'bailiwicklaw05.RightsSets': WHATEVER THE INPUT: true; the input reads as it did. -/
def rightsSetsSpec : ChangeSpec := { name := "rightsSets", fn := fun _ => fun
  | [d1, d2] => { results := [.lit (.bool true)], args := [d1, d2] }
  | _ => none }
def rightsSetsRow : OpenClaim := { program := "ytjoogkpakelcaaa", sum := "58ccd896787ad61f2fdd094293c6b31f8eedcb93147c9943be905bc98fd5c91b", func := "bailiwick/bailiwicklaw05.RightsSets", spec := "rightsSets", apart := false }
def RightsSetsSaid : Prop := rightsSetsRow.holds Try.pinned (OpenSpec.ofChange rightsSetsSpec)

/-- ITS FALSE NEIGHBOUR: 'it returns false'. Refute it at one input. -/
def rightsSetsWrong : ChangeSpec := { name := "rightsSets", fn := fun _ => fun
  | [d1, d2] => { results := [.lit (.bool false)], args := [d1, d2] }
  | _ => none }
def RightsSetsWrongFalsely : Prop := rightsSetsRow.holds Try.pinned (OpenSpec.ofChange rightsSetsWrong)

/-- 'bailiwicklaw05.RightsCuts': WHATEVER THE INPUT: true; the input reads as it did. -/
def rightsCutsSpec : ChangeSpec := { name := "rightsCuts", fn := fun _ => fun
  | [d1, d2, d3] => { results := [.lit (.bool true)], args := [d1, d2, d3] }
  | _ => none }
def rightsCutsRow : OpenClaim := { program := "ytjoogkpakelcaaa", sum := "58ccd896787ad61f2fdd094293c6b31f8eedcb93147c9943be905bc98fd5c91b", func := "bailiwick/bailiwicklaw05.RightsCuts", spec := "rightsCuts", apart := false }
def RightsCutsSaid : Prop := rightsCutsRow.holds Try.pinned (OpenSpec.ofChange rightsCutsSpec)

/-- ITS FALSE NEIGHBOUR: 'it returns false'. Refute it at one input. -/
def rightsCutsWrong : ChangeSpec := { name := "rightsCuts", fn := fun _ => fun
  | [d1, d2, d3] => { results := [.lit (.bool false)], args := [d1, d2, d3] }
  | _ => none }
def RightsCutsWrongFalsely : Prop := rightsCutsRow.holds Try.pinned (OpenSpec.ofChange rightsCutsWrong)

/-- 'bailiwicklaw05.RightsCounts': WHATEVER THE INPUT: true; the input reads as it did. -/
def rightsCountsSpec : ChangeSpec := { name := "rightsCounts", fn := fun _ => fun
  | [d1, d2, d3] => { results := [.lit (.bool true)], args := [d1, d2, d3] }
  | _ => none }
def rightsCountsRow : OpenClaim := { program := "ytjoogkpakelcaaa", sum := "58ccd896787ad61f2fdd094293c6b31f8eedcb93147c9943be905bc98fd5c91b", func := "bailiwick/bailiwicklaw05.RightsCounts", spec := "rightsCounts", apart := false }
def RightsCountsSaid : Prop := rightsCountsRow.holds Try.pinned (OpenSpec.ofChange rightsCountsSpec)

/-- ITS FALSE NEIGHBOUR: 'it returns false'. Refute it at one input. -/
def rightsCountsWrong : ChangeSpec := { name := "rightsCounts", fn := fun _ => fun
  | [d1, d2, d3] => { results := [.lit (.bool false)], args := [d1, d2, d3] }
  | _ => none }
def RightsCountsWrongFalsely : Prop := rightsCountsRow.holds Try.pinned (OpenSpec.ofChange rightsCountsWrong)

/- THE SECOND FORM. 'bulk': how many values and letters a reading holds, each counted each time it is reached (what is shared counts as often as it is met; a slice's spare places count too). A statement '..UptoSaid' is the law's where the arguments, and the package variables that the reading takes, are together of bulk at most 1048576: NARROWER than '..Said'. Prove '..Said' where nothing that the law and all that it calls make is longer than what came in: it says more and counts as full. Else prove '..UptoSaid'. A law counts once. -/
mutual
def uptoBulk {H : Type} : DataW H → Nat
  | .lit (.string bytes) => bytes.length + 1
  | .lit _ => 1
  | .nil => 1
  | .ptr d => uptoBulk d + 1
  | .slice elems spare => uptoBulkAll elems + uptoBulkAll spare + 1
  | .agg parts => uptoBulkAll parts + 1
  | .iface _ d => uptoBulk d + 1
  | .map entries => uptoBulkEntries entries + 1
  | .held _ => 1
def uptoBulkAll {H : Type} : List (DataW H) → Nat
  | [] => 0
  | d :: r => uptoBulk d + uptoBulkAll r
def uptoBulkEntries {H : Type} : List (Lit × DataW H) → Nat
  | [] => 0
  | x :: r => uptoBulkEntry x + uptoBulkEntries r
def uptoBulkEntry {H : Type} : Lit × DataW H → Nat
  | (.string bytes, d) => bytes.length + uptoBulk d + 1
  | (_, d) => uptoBulk d + 1
 end
def uptoSmall : (H : Type) → List (DataW H) → Bool := fun _ ds => decide (uptoBulkAll ds ≤ 1048576)
def OpenSpec.upto (s : _root_.Go.ChangeSpec) : _root_.Go.OpenSpec := { _root_.Go.OpenSpec.ofChange s with cond := some uptoSmall }

/-- 'bailiwicklaw05.RightsLetters', WHERE WHAT IT READS IS OF BULK AT MOST 1048576: true; the input reads as it did. -/
def rightsLettersUptoRow : OpenClaim := { program := "ytjoogkpakelcaaa", sum := "58ccd896787ad61f2fdd094293c6b31f8eedcb93147c9943be905bc98fd5c91b", func := "bailiwick/bailiwicklaw05.RightsLetters", spec := "rightsLetters", apart := false, narrowed := true }
def RightsLettersUptoSaid : Prop := rightsLettersUptoRow.holds Try.pinned (OpenSpec.upto rightsLettersSpec)

/-- 'bailiwicklaw05.RightsBack', WHERE WHAT IT READS IS OF BULK AT MOST 1048576: true; the input reads as it did. -/
def rightsBackUptoRow : OpenClaim := { program := "ytjoogkpakelcaaa", sum := "58ccd896787ad61f2fdd094293c6b31f8eedcb93147c9943be905bc98fd5c91b", func := "bailiwick/bailiwicklaw05.RightsBack", spec := "rightsBack", apart := false, narrowed := true }
def RightsBackUptoSaid : Prop := rightsBackUptoRow.holds Try.pinned (OpenSpec.upto rightsBackSpec)

/-- 'bailiwicklaw05.RightsTurned', WHERE WHAT IT READS IS OF BULK AT MOST 1048576: true; the input reads as it did. -/
def rightsTurnedUptoRow : OpenClaim := { program := "ytjoogkpakelcaaa", sum := "58ccd896787ad61f2fdd094293c6b31f8eedcb93147c9943be905bc98fd5c91b", func := "bailiwick/bailiwicklaw05.RightsTurned", spec := "rightsTurned", apart := false, narrowed := true }
def RightsTurnedUptoSaid : Prop := rightsTurnedUptoRow.holds Try.pinned (OpenSpec.upto rightsTurnedSpec)

/-- 'bailiwicklaw05.RightsSets', WHERE WHAT IT READS IS OF BULK AT MOST 1048576: true; the input reads as it did. -/
def rightsSetsUptoRow : OpenClaim := { program := "ytjoogkpakelcaaa", sum := "58ccd896787ad61f2fdd094293c6b31f8eedcb93147c9943be905bc98fd5c91b", func := "bailiwick/bailiwicklaw05.RightsSets", spec := "rightsSets", apart := false, narrowed := true }
def RightsSetsUptoSaid : Prop := rightsSetsUptoRow.holds Try.pinned (OpenSpec.upto rightsSetsSpec)

/-- 'bailiwicklaw05.RightsCuts', WHERE WHAT IT READS IS OF BULK AT MOST 1048576: true; the input reads as it did. -/
def rightsCutsUptoRow : OpenClaim := { program := "ytjoogkpakelcaaa", sum := "58ccd896787ad61f2fdd094293c6b31f8eedcb93147c9943be905bc98fd5c91b", func := "bailiwick/bailiwicklaw05.RightsCuts", spec := "rightsCuts", apart := false, narrowed := true }
def RightsCutsUptoSaid : Prop := rightsCutsUptoRow.holds Try.pinned (OpenSpec.upto rightsCutsSpec)

/-- 'bailiwicklaw05.RightsCounts', WHERE WHAT IT READS IS OF BULK AT MOST 1048576: true; the input reads as it did. -/
def rightsCountsUptoRow : OpenClaim := { program := "ytjoogkpakelcaaa", sum := "58ccd896787ad61f2fdd094293c6b31f8eedcb93147c9943be905bc98fd5c91b", func := "bailiwick/bailiwicklaw05.RightsCounts", spec := "rightsCounts", apart := false, narrowed := true }
def RightsCountsUptoSaid : Prop := rightsCountsUptoRow.holds Try.pinned (OpenSpec.upto rightsCountsSpec)

end Rows
end Go.Proofs.Ytjoogkpakelcaaa
