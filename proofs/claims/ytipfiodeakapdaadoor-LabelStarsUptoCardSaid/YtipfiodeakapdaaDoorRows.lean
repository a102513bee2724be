/-
  NARROWER THAN 'FOR EVERY INPUT', by the rows' own cells (each row's printed sentence says how): LabelTells: laid · LabelMatches: laid · LabelFolds: laid · LabelParts: laid · LabelStars: laid · LabelCase: laid · LabelLong: laid.
  DERIVED. THE GIVEN ROWS OF THIS SEAT. 7 by the template 'for every input the law returns true; each argument reads behind the call as it read before'; 0 by the template 'total and deterministic' (their statements: YtipfiodeakapdaaDoorTotals.lean).
  GIVEN WITH THE SEED: the statements are not yours to turn. If you find one false, say at which input.
  Laid BY PROGRAM, IN A SANDBOX (cutbox-rows.mjs): the forced cells as the released guide's own fill.sh prints them over the translation f42cad825081ea7b… (all of the seat's roots in one cut). By AI agents, Wed Nov 11 2026. No macro, syntax, notation, axiom, sorry.
-/
import Derived.Test.YtipfiodeakapdaaDoorChecked
import GoSem.PinnedTables
import GoSem.Claim
import GoSem.ClaimJoined
import GoSem.ClaimMapViews
import Derived.JoinedTies
import Derived.KernelRfl
namespace Go.Proofs.YtipfiodeakapdaaDoor
/- THE CELL 'sum', in the pinned program and in every row, IS THE sha256 OF THE DUMP (.gsa) THAT YtipfiodeakapdaaDoorProg.lean LOADS. Nothing in Lean hashes anything: it is a label: what it is worth is what the hold of that sum in a sandbox is worth. -/
noncomputable def Tryd.pinned : Pinned := { name := "ytipfiodeakapdaadoor", sum := "f42cad825081ea7b074bf386b697c15ac68df32b12b96c597ef2de104a94922a", checked := Tryd.checked }
namespace Rows
def none {H : Type} : Left H := { results := [], args := [] }

/- WHAT THE LISTED PACKAGE-LEVEL VARIABLES READ AS WHEN THE CALL BEGINS. Each datum BY PROGRAM (the guide's laid-datum.mjs) off the statement by which the dump's own 'gosem.cut.vars' lays the variable. In a bare row this is a premise. The card (YtipfiodeakapdaaDoorCards.lean) ties it to the program's text. -/
def laid_unicode_utf8_acceptRanges {H : Type} : DataW H := .agg [.agg [.lit (.int .u8 128), .lit (.int .u8 191)], .agg [.lit (.int .u8 160), .lit (.int .u8 191)], .agg [.lit (.int .u8 128), .lit (.int .u8 159)], .agg [.lit (.int .u8 144), .lit (.int .u8 191)], .agg [.lit (.int .u8 128), .lit (.int .u8 143)], .agg [.lit (.int .u8 0), .lit (.int .u8 0)], .agg [.lit (.int .u8 0), .lit (.int .u8 0)], .agg [.lit (.int .u8 0), .lit (.int .u8 0)], .agg [.lit (.int .u8 0), .lit (.int .u8 0)], .agg [.lit (.int .u8 0), .lit (.int .u8 0)], .agg [.lit (.int .u8 0), .lit (.int .u8 0)], .agg [.lit (.int .u8 0), .lit (.int .u8 0)], .agg [.lit (.int .u8 0), .lit (.int .u8 0)], .agg [.lit (.int .u8 0), .lit (.int .u8 0)], .agg [.lit (.int .u8 0), .lit (.int .u8 0)], .agg [.lit (.int .u8 0), .lit (.int .u8 0)]]
/-- One of Go's own tables, pinned by name: the form's constant. -/
def laid_unicode_utf8_first : DataW Unit := Go.Pinned.utf8First

/-- 'bailiwicklaw02.LabelTells': WHATEVER THE INPUT: true; the input reads as it did. -/
def labelTellsSpec : ChangeSpec := { name := "labelTells", fn := fun _ => fun
  | [d] => { results := [.lit (.bool true)], args := [d] }
  | _ => none }
def labelTellsRow : OpenClaim := { program := "ytipfiodeakapdaadoor", sum := "f42cad825081ea7b074bf386b697c15ac68df32b12b96c597ef2de104a94922a", func := "bailiwick/bailiwicklaw02.LabelTells", spec := "labelTells", inPlace := ["internal/abi.NoEscape", "internal/bytealg.CountString", "internal/bytealg.IndexByteString", "internal/bytealg.IndexString"], named := ["unicode/utf8.first", "unicode/utf8.acceptRanges", "internal/bytealg.MaxLen"], apart := false, laid := [("unicode/utf8.acceptRanges", laid_unicode_utf8_acceptRanges), ("unicode/utf8.first", laid_unicode_utf8_first)] }
def LabelTellsSaid : Prop := labelTellsRow.holds Tryd.pinned (OpenSpec.ofChange labelTellsSpec)

/-- ITS FALSE NEIGHBOUR: 'it returns false'. Refute it at one input. -/
def labelTellsWrong : ChangeSpec := { name := "labelTells", fn := fun _ => fun
  | [d] => { results := [.lit (.bool false)], args := [d] }
  | _ => none }
def LabelTellsWrongFalsely : Prop := labelTellsRow.holds Tryd.pinned (OpenSpec.ofChange labelTellsWrong)

/-- 'bailiwicklaw02.LabelMatches': WHATEVER THE INPUT: true; the input reads as it did. -/
def labelMatchesSpec : ChangeSpec := { name := "labelMatches", fn := fun _ => fun
  | [d1, d2] => { results := [.lit (.bool true)], args := [d1, d2] }
  | _ => none }
def labelMatchesRow : OpenClaim := { program := "ytipfiodeakapdaadoor", sum := "f42cad825081ea7b074bf386b697c15ac68df32b12b96c597ef2de104a94922a", func := "bailiwick/bailiwicklaw02.LabelMatches", spec := "labelMatches", inPlace := ["internal/abi.NoEscape", "internal/bytealg.CountString", "internal/bytealg.IndexByteString", "internal/bytealg.IndexString"], named := ["unicode/utf8.first", "unicode/utf8.acceptRanges", "internal/bytealg.MaxLen"], apart := false, laid := [("unicode/utf8.acceptRanges", laid_unicode_utf8_acceptRanges), ("unicode/utf8.first", laid_unicode_utf8_first)] }
def LabelMatchesSaid : Prop := labelMatchesRow.holds Tryd.pinned (OpenSpec.ofChange labelMatchesSpec)

/-- ITS FALSE NEIGHBOUR: 'it returns false'. Refute it at one input. -/
def labelMatchesWrong : ChangeSpec := { name := "labelMatches", fn := fun _ => fun
  | [d1, d2] => { results := [.lit (.bool false)], args := [d1, d2] }
  | _ => none }
def LabelMatchesWrongFalsely : Prop := labelMatchesRow.holds Tryd.pinned (OpenSpec.ofChange labelMatchesWrong)

/-- 'bailiwicklaw02.LabelFolds': WHATEVER THE INPUT: true; the input reads as it did. -/
def labelFoldsSpec : ChangeSpec := { name := "labelFolds", fn := fun _ => fun
  | [d] => { results := [.lit (.bool true)], args := [d] }
  | _ => none }
def labelFoldsRow : OpenClaim := { program := "ytipfiodeakapdaadoor", sum := "f42cad825081ea7b074bf386b697c15ac68df32b12b96c597ef2de104a94922a", func := "bailiwick/bailiwicklaw02.LabelFolds", spec := "labelFolds", inPlace := ["internal/abi.NoEscape", "internal/bytealg.CountString", "internal/bytealg.IndexByteString", "internal/bytealg.IndexString"], named := ["unicode/utf8.first", "unicode/utf8.acceptRanges", "internal/bytealg.MaxLen"], apart := false, laid := [("unicode/utf8.acceptRanges", laid_unicode_utf8_acceptRanges), ("unicode/utf8.first", laid_unicode_utf8_first)] }
def LabelFoldsSaid : Prop := labelFoldsRow.holds Tryd.pinned (OpenSpec.ofChange labelFoldsSpec)

/-- ITS FALSE NEIGHBOUR: 'it returns false'. Refute it at one input. -/
def labelFoldsWrong : ChangeSpec := { name := "labelFolds", fn := fun _ => fun
  | [d] => { results := [.lit (.bool false)], args := [d] }
  | _ => none }
def LabelFoldsWrongFalsely : Prop := labelFoldsRow.holds Tryd.pinned (OpenSpec.ofChange labelFoldsWrong)

/-- 'bailiwicklaw02.LabelParts': WHATEVER THE INPUT: true; the input reads as it did. -/
def labelPartsSpec : ChangeSpec := { name := "labelParts", fn := fun _ => fun
  | [d] => { results := [.lit (.bool true)], args := [d] }
  | _ => none }
def labelPartsRow : OpenClaim := { program := "ytipfiodeakapdaadoor", sum := "f42cad825081ea7b074bf386b697c15ac68df32b12b96c597ef2de104a94922a", func := "bailiwick/bailiwicklaw02.LabelParts", spec := "labelParts", inPlace := ["internal/abi.NoEscape", "internal/bytealg.CountString", "internal/bytealg.IndexByteString", "internal/bytealg.IndexString"], named := ["unicode/utf8.first", "unicode/utf8.acceptRanges", "internal/bytealg.MaxLen"], apart := false, laid := [("unicode/utf8.acceptRanges", laid_unicode_utf8_acceptRanges), ("unicode/utf8.first", laid_unicode_utf8_first)] }
def LabelPartsSaid : Prop := labelPartsRow.holds Tryd.pinned (OpenSpec.ofChange labelPartsSpec)

/-- ITS FALSE NEIGHBOUR: 'it returns false'. Refute it at one input. -/
def labelPartsWrong : ChangeSpec := { name := "labelParts", fn := fun _ => fun
  | [d] => { results := [.lit (.bool false)], args := [d] }
  | _ => none }
def LabelPartsWrongFalsely : Prop := labelPartsRow.holds Tryd.pinned (OpenSpec.ofChange labelPartsWrong)

/-- 'bailiwicklaw02.LabelStars': WHATEVER THE INPUT: true; the input reads as it did. -/
def labelStarsSpec : ChangeSpec := { name := "labelStars", fn := fun _ => fun
  | [d1, d2] => { results := [.lit (.bool true)], args := [d1, d2] }
  | _ => none }
def labelStarsRow : OpenClaim := { program := "ytipfiodeakapdaadoor", sum := "f42cad825081ea7b074bf386b697c15ac68df32b12b96c597ef2de104a94922a", func := "bailiwick/bailiwicklaw02.LabelStars", spec := "labelStars", inPlace := ["internal/abi.NoEscape", "internal/bytealg.CountString", "internal/bytealg.IndexByteString", "internal/bytealg.IndexString"], named := ["unicode/utf8.first", "unicode/utf8.acceptRanges", "internal/bytealg.MaxLen"], apart := false, laid := [("unicode/utf8.acceptRanges", laid_unicode_utf8_acceptRanges), ("unicode/utf8.first", laid_unicode_utf8_first)] }
def LabelStarsSaid : Prop := labelStarsRow.holds Tryd.pinned (OpenSpec.ofChange labelStarsSpec)

/-- ITS FALSE NEIGHBOUR: 'it returns false'. Refute it at one input. -/
def labelStarsWrong : ChangeSpec := { name := "labelStars", fn := fun _ => fun
  | [d1, d2] => { results := [.lit (.bool false)], args := [d1, d2] }
  | _ => none }
def LabelStarsWrongFalsely : Prop := labelStarsRow.holds Tryd.pinned (OpenSpec.ofChange labelStarsWrong)

/-- 'bailiwicklaw02.LabelCase': WHATEVER THE INPUT: true; the input reads as it did. -/
def labelCaseSpec : ChangeSpec := { name := "labelCase", fn := fun _ => fun
  | [d1, d2, d3] => { results := [.lit (.bool true)], args := [d1, d2, d3] }
  | _ => none }
def labelCaseRow : OpenClaim := { program := "ytipfiodeakapdaadoor", sum := "f42cad825081ea7b074bf386b697c15ac68df32b12b96c597ef2de104a94922a", func := "bailiwick/bailiwicklaw02.LabelCase", spec := "labelCase", inPlace := ["internal/abi.NoEscape", "internal/bytealg.CountString", "internal/bytealg.IndexByteString", "internal/bytealg.IndexString"], named := ["unicode/utf8.first", "unicode/utf8.acceptRanges", "internal/bytealg.MaxLen"], apart := false, laid := [("unicode/utf8.acceptRanges", laid_unicode_utf8_acceptRanges), ("unicode/utf8.first", laid_unicode_utf8_first)] }
def LabelCaseSaid : Prop := labelCaseRow.holds Tryd.pinned (OpenSpec.ofChange labelCaseSpec)

/-- ITS FALSE NEIGHBOUR: 'it returns false'. Refute it at one input. -/
def labelCaseWrong : ChangeSpec := { name := "labelCase", fn := fun _ => fun
  | [d1, d2, d3] => { results := [.lit (.bool false)], args := [d1, d2, d3] }
  | _ => none }
def LabelCaseWrongFalsely : Prop := labelCaseRow.holds Tryd.pinned (OpenSpec.ofChange labelCaseWrong)

/-- 'bailiwicklaw02.LabelLong': WHATEVER THE INPUT: true; the input reads as it did. -/
def labelLongSpec : ChangeSpec := { name := "labelLong", fn := fun _ => fun
  | [d1, d2] => { results := [.lit (.bool true)], args := [d1, d2] }
  | _ => none }
def labelLongRow : OpenClaim := { program := "ytipfiodeakapdaadoor", sum := "f42cad825081ea7b074bf386b697c15ac68df32b12b96c597ef2de104a94922a", func := "bailiwick/bailiwicklaw02.LabelLong", spec := "labelLong", inPlace := ["internal/abi.NoEscape", "internal/bytealg.CountString", "internal/bytealg.IndexByteString", "internal/bytealg.IndexString"], named := ["unicode/utf8.first", "unicode/utf8.acceptRanges", "internal/bytealg.MaxLen"], apart := false, laid := [("unicode/utf8.acceptRanges", laid_unicode_utf8_acceptRanges), ("unicode/utf8.first", laid_unicode_utf8_first)] }
def LabelLongSaid : Prop := labelLongRow.holds Tryd.pinned (OpenSpec.ofChange labelLongSpec)

/-- ITS FALSE NEIGHBOUR: 'it returns false'. Refute it at one input. -/
def labelLongWrong : ChangeSpec := { name := "labelLong", fn := fun _ => fun
  | [d1, d2] => { results := [.lit (.bool false)], args := [d1, d2] }
  | _ => none }
def LabelLongWrongFalsely : Prop := labelLongRow.holds Tryd.pinned (OpenSpec.ofChange labelLongWrong)

/- THE SECOND FORM. 'bulk': how many values and letters a reading holds, each counted each time it is reached (what is shared counts as often as it is met; a slice's spare places count too). A statement '..UptoSaid' is the law's where the arguments, and the package variables that the reading takes, are together of bulk at most 1048576: NARROWER than '..Said'. Prove '..Said' where nothing that the law and all that it calls make is longer than what came in: it says more and counts as full. Else prove '..UptoSaid'. A law counts once. -/
mutual
def uptoBulk {H : Type} : DataW H → Nat
  | .lit (.string bytes) => bytes.length + 1
  | .lit _ => 1
  | .nil => 1
  | .ptr d => uptoBulk d + 1
  | .slice elems spare => uptoBulkAll elems + uptoBulkAll spare + 1
  | .agg parts => uptoBulkAll parts + 1
  | .iface _ d => uptoBulk d + 1
  | .map entries => uptoBulkEntries entries + 1
  | .held _ => 1
def uptoBulkAll {H : Type} : List (DataW H) → Nat
  | [] => 0
  | d :: r => uptoBulk d + uptoBulkAll r
def uptoBulkEntries {H : Type} : List (Lit × DataW H) → Nat
  | [] => 0
  | x :: r => uptoBulkEntry x + uptoBulkEntries r
def uptoBulkEntry {H : Type} : Lit × DataW H → Nat
  | (.string bytes, d) => bytes.length + uptoBulk d + 1
  | (_, d) => uptoBulk d + 1
 end
def uptoSmall : (H : Type) → List (DataW H) → Bool := fun _ ds => decide (uptoBulkAll ds ≤ 1048576)
def OpenSpec.upto (s : _root_.Go.ChangeSpec) : _root_.Go.OpenSpec := { _root_.Go.OpenSpec.ofChange s with cond := some uptoSmall }

/-- 'bailiwicklaw02.LabelTells', WHERE WHAT IT READS IS OF BULK AT MOST 1048576: true; the input reads as it did. -/
def labelTellsUptoRow : OpenClaim := { program := "ytipfiodeakapdaadoor", sum := "f42cad825081ea7b074bf386b697c15ac68df32b12b96c597ef2de104a94922a", func := "bailiwick/bailiwicklaw02.LabelTells", spec := "labelTells", inPlace := ["internal/abi.NoEscape", "internal/bytealg.CountString", "internal/bytealg.IndexByteString", "internal/bytealg.IndexString"], named := ["unicode/utf8.first", "unicode/utf8.acceptRanges", "internal/bytealg.MaxLen"], apart := false, laid := [("unicode/utf8.acceptRanges", laid_unicode_utf8_acceptRanges), ("unicode/utf8.first", laid_unicode_utf8_first)], narrowed := true }
def LabelTellsUptoSaid : Prop := labelTellsUptoRow.holds Tryd.pinned (OpenSpec.upto labelTellsSpec)

/-- 'bailiwicklaw02.LabelMatches', WHERE WHAT IT READS IS OF BULK AT MOST 1048576: true; the input reads as it did. -/
def labelMatchesUptoRow : OpenClaim := { program := "ytipfiodeakapdaadoor", sum := "f42cad825081ea7b074bf386b697c15ac68df32b12b96c597ef2de104a94922a", func := "bailiwick/bailiwicklaw02.LabelMatches", spec := "labelMatches", inPlace := ["internal/abi.NoEscape", "internal/bytealg.CountString", "internal/bytealg.IndexByteString", "internal/bytealg.IndexString"], named := ["unicode/utf8.first", "unicode/utf8.acceptRanges", "internal/bytealg.MaxLen"], apart := false, laid := [("unicode/utf8.acceptRanges", laid_unicode_utf8_acceptRanges), ("unicode/utf8.first", laid_unicode_utf8_first)], narrowed := true }
def LabelMatchesUptoSaid : Prop := labelMatchesUptoRow.holds Tryd.pinned (OpenSpec.upto labelMatchesSpec)

/-- 'bailiwicklaw02.LabelFolds', WHERE WHAT IT READS IS OF BULK AT MOST 1048576: true; the input reads as it did. -/
def labelFoldsUptoRow : OpenClaim := { program := "ytipfiodeakapdaadoor", sum := "f42cad825081ea7b074bf386b697c15ac68df32b12b96c597ef2de104a94922a", func := "bailiwick/bailiwicklaw02.LabelFolds", spec := "labelFolds", inPlace := ["internal/abi.NoEscape", "internal/bytealg.CountString", "internal/bytealg.IndexByteString", "internal/bytealg.IndexString"], named := ["unicode/utf8.first", "unicode/utf8.acceptRanges", "internal/bytealg.MaxLen"], apart := false, laid := [("unicode/utf8.acceptRanges", laid_unicode_utf8_acceptRanges), ("unicode/utf8.first", laid_unicode_utf8_first)], narrowed := true }
def LabelFoldsUptoSaid : Prop := labelFoldsUptoRow.holds Tryd.pinned (OpenSpec.upto labelFoldsSpec)

/-- 'bailiwicklaw02.LabelParts', WHERE WHAT IT READS IS OF BULK AT MOST 1048576: true; the input reads as it did. -/
def labelPartsUptoRow : OpenClaim := { program := "ytipfiodeakapdaadoor", sum := "f42cad825081ea7b074bf386b697c15ac68df32b12b96c597ef2de104a94922a", func := "bailiwick/bailiwicklaw02.LabelParts", spec := "labelParts", inPlace := ["internal/abi.NoEscape", "internal/bytealg.CountString", "internal/bytealg.IndexByteString", "internal/bytealg.IndexString"], named := ["unicode/utf8.first", "unicode/utf8.acceptRanges", "internal/bytealg.MaxLen"], apart := false, laid := [("unicode/utf8.acceptRanges", laid_unicode_utf8_acceptRanges), ("unicode/utf8.first", laid_unicode_utf8_first)], narrowed := true }
def LabelPartsUptoSaid : Prop := labelPartsUptoRow.holds Tryd.pinned (OpenSpec.upto labelPartsSpec)

/-- 'bailiwicklaw02.LabelStars', WHERE WHAT IT READS IS OF BULK AT MOST 1048576: true; the input reads as it did. -/
def labelStarsUptoRow : OpenClaim := { program := "ytipfiodeakapdaadoor", sum := "f42cad825081ea7b074bf386b697c15ac68df32b12b96c597ef2de104a94922a", func := "bailiwick/bailiwicklaw02.LabelStars", spec := "labelStars", inPlace := ["internal/abi.NoEscape", "internal/bytealg.CountString", "internal/bytealg.IndexByteString", "internal/bytealg.IndexString"], named := ["unicode/utf8.first", "unicode/utf8.acceptRanges", "internal/bytealg.MaxLen"], apart := false, laid := [("unicode/utf8.acceptRanges", laid_unicode_utf8_acceptRanges), ("unicode/utf8.first", laid_unicode_utf8_first)], narrowed := true }
def LabelStarsUptoSaid : Prop := labelStarsUptoRow.holds Tryd.pinned (OpenSpec.upto labelStarsSpec)

/-- 'bailiwicklaw02.LabelCase', WHERE WHAT IT READS IS OF BULK AT MOST 1048576: true; the input reads as it did. -/
def labelCaseUptoRow : OpenClaim := { program := "ytipfiodeakapdaadoor", sum := "f42cad825081ea7b074bf386b697c15ac68df32b12b96c597ef2de104a94922a", func := "bailiwick/bailiwicklaw02.LabelCase", spec := "labelCase", inPlace := ["internal/abi.NoEscape", "internal/bytealg.CountString", "internal/bytealg.IndexByteString", "internal/bytealg.IndexString"], named := ["unicode/utf8.first", "unicode/utf8.acceptRanges", "internal/bytealg.MaxLen"], apart := false, laid := [("unicode/utf8.acceptRanges", laid_unicode_utf8_acceptRanges), ("unicode/utf8.first", laid_unicode_utf8_first)], narrowed := true }
def LabelCaseUptoSaid : Prop := labelCaseUptoRow.holds Tryd.pinned (OpenSpec.upto labelCaseSpec)

/-- 'bailiwicklaw02.LabelLong', WHERE WHAT IT READS IS OF BULK AT MOST 1048576: true; the input reads as it did. -/
def labelLongUptoRow : OpenClaim := { program := "ytipfiodeakapdaadoor", sum := "f42cad825081ea7b074bf386b697c15ac68df32b12b96c597ef2de104a94922a", func := "bailiwick/bailiwicklaw02.LabelLong", spec := "labelLong", inPlace := ["internal/abi.NoEscape", "internal/bytealg.CountString", "internal/bytealg.IndexByteString", "internal/bytealg.IndexString"], named := ["unicode/utf8.first", "unicode/utf8.acceptRanges", "internal/bytealg.MaxLen"], apart := false, laid := [("unicode/utf8.acceptRanges", laid_unicode_utf8_acceptRanges), ("unicode/utf8.first", laid_unicode_utf8_first)], narrowed := true }
def LabelLongUptoSaid : Prop := labelLongUptoRow.holds Tryd.pinned (OpenSpec.upto labelLongSpec)

end Rows
end Go.Proofs.YtipfiodeakapdaaDoor
