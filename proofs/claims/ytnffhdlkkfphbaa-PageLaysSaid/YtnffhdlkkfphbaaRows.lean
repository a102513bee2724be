/-
  No cell of these rows narrows 'for every input' (looked for: loops, veiled, ifaces, maps, wideKeys, modest, calm, conditions, laid).
  DERIVED. THE GIVEN ROWS OF THIS SEAT. 10 by the template 'for every input the law returns true; each argument reads behind the call as it read before'; 0 by the template 'total and deterministic' (their statements: YtnffhdlkkfphbaaTotals.lean).
  GIVEN WITH THE SEED: the statements are not yours to turn. If you find one false, say at which input.
  Laid BY PROGRAM, IN A SANDBOX (cutbox-rows.mjs): the forced cells as the released guide's own fill.sh prints them over the translation 318a50bcca992431… (all of the seat's roots in one cut). By AI agents, Wed Nov 11 2026. No macro, syntax, notation, axiom, sorry.
-/
import Derived.Test.YtnffhdlkkfphbaaChecked
import GoSem.Claim
import GoSem.ClaimJoined
import GoSem.ClaimMapViews
import Derived.JoinedTies
import Derived.KernelRfl
namespace Go.Proofs.Ytnffhdlkkfphbaa
/- THE CELL 'sum', in the pinned program and in every row, IS THE sha256 OF THE DUMP (.gsa) THAT YtnffhdlkkfphbaaProg.lean LOADS. Nothing in Lean hashes anything: it is a label: what it is worth is what the hold of that sum in a sandbox is worth. -/
noncomputable def Try.pinned : Pinned := { name := "ytnffhdlkkfphbaa", sum := "318a50bcca992431053df3498d02f2d2f0252fe4e48b367c5b3e86cc38e095cb", checked := Try.checked }
namespace Rows
def none {H : Type} : Left H := { results := [], args := [] }

/-- 'bailiwicklaw07.PageSeals': WHATEVER THE INPUT: true; the input reads as it did. -/
def pageSealsSpec : ChangeSpec := { name := "pageSeals", fn := fun _ => fun
  | [d1, d2, d3] => { results := [.lit (.bool true)], args := [d1, d2, d3] }
  | _ => none }
def pageSealsRow : OpenClaim := { program := "ytnffhdlkkfphbaa", sum := "318a50bcca992431053df3498d02f2d2f0252fe4e48b367c5b3e86cc38e095cb", func := "bailiwick/bailiwicklaw07.PageSeals", spec := "pageSeals", apart := false }
def PageSealsSaid : Prop := pageSealsRow.holds Try.pinned (OpenSpec.ofChange pageSealsSpec)

/-- ITS FALSE NEIGHBOUR: 'it returns false'. Refute it at one input. -/
def pageSealsWrong : ChangeSpec := { name := "pageSeals", fn := fun _ => fun
  | [d1, d2, d3] => { results := [.lit (.bool false)], args := [d1, d2, d3] }
  | _ => none }
def PageSealsWrongFalsely : Prop := pageSealsRow.holds Try.pinned (OpenSpec.ofChange pageSealsWrong)

/-- 'bailiwicklaw07.PageBack': WHATEVER THE INPUT: true; the input reads as it did. -/
def pageBackSpec : ChangeSpec := { name := "pageBack", fn := fun _ => fun
  | [d1, d2, d3] => { results := [.lit (.bool true)], args := [d1, d2, d3] }
  | _ => none }
def pageBackRow : OpenClaim := { program := "ytnffhdlkkfphbaa", sum := "318a50bcca992431053df3498d02f2d2f0252fe4e48b367c5b3e86cc38e095cb", func := "bailiwick/bailiwicklaw07.PageBack", spec := "pageBack", apart := false }
def PageBackSaid : Prop := pageBackRow.holds Try.pinned (OpenSpec.ofChange pageBackSpec)

/-- ITS FALSE NEIGHBOUR: 'it returns false'. Refute it at one input. -/
def pageBackWrong : ChangeSpec := { name := "pageBack", fn := fun _ => fun
  | [d1, d2, d3] => { results := [.lit (.bool false)], args := [d1, d2, d3] }
  | _ => none }
def PageBackWrongFalsely : Prop := pageBackRow.holds Try.pinned (OpenSpec.ofChange pageBackWrong)

/-- 'bailiwicklaw07.PageByte': WHATEVER THE INPUT: true; the input reads as it did. -/
def pageByteSpec : ChangeSpec := { name := "pageByte", fn := fun _ => fun
  | [d1, d2, d3, d4] => { results := [.lit (.bool true)], args := [d1, d2, d3, d4] }
  | _ => none }
def pageByteRow : OpenClaim := { program := "ytnffhdlkkfphbaa", sum := "318a50bcca992431053df3498d02f2d2f0252fe4e48b367c5b3e86cc38e095cb", func := "bailiwick/bailiwicklaw07.PageByte", spec := "pageByte", apart := false }
def PageByteSaid : Prop := pageByteRow.holds Try.pinned (OpenSpec.ofChange pageByteSpec)

/-- ITS FALSE NEIGHBOUR: 'it returns false'. Refute it at one input. -/
def pageByteWrong : ChangeSpec := { name := "pageByte", fn := fun _ => fun
  | [d1, d2, d3, d4] => { results := [.lit (.bool false)], args := [d1, d2, d3, d4] }
  | _ => none }
def PageByteWrongFalsely : Prop := pageByteRow.holds Try.pinned (OpenSpec.ofChange pageByteWrong)

/-- 'bailiwicklaw07.PageSums': WHATEVER THE INPUT: true; the input reads as it did. -/
def pageSumsSpec : ChangeSpec := { name := "pageSums", fn := fun _ => fun
  | [d1, d2] => { results := [.lit (.bool true)], args := [d1, d2] }
  | _ => none }
def pageSumsRow : OpenClaim := { program := "ytnffhdlkkfphbaa", sum := "318a50bcca992431053df3498d02f2d2f0252fe4e48b367c5b3e86cc38e095cb", func := "bailiwick/bailiwicklaw07.PageSums", spec := "pageSums", apart := false }
def PageSumsSaid : Prop := pageSumsRow.holds Try.pinned (OpenSpec.ofChange pageSumsSpec)

/-- ITS FALSE NEIGHBOUR: 'it returns false'. Refute it at one input. -/
def pageSumsWrong : ChangeSpec := { name := "pageSums", fn := fun _ => fun
  | [d1, d2] => { results := [.lit (.bool false)], args := [d1, d2] }
  | _ => none }
def PageSumsWrongFalsely : Prop := pageSumsRow.holds Try.pinned (OpenSpec.ofChange pageSumsWrong)

/-- 'bailiwicklaw06.DiskOwn': WHATEVER THE INPUT: true; the input reads as it did. -/
def diskOwnSpec : ChangeSpec := { name := "diskOwn", fn := fun _ => fun
  | [d1, d2] => { results := [.lit (.bool true)], args := [d1, d2] }
  | _ => none }
def diskOwnRow : OpenClaim := { program := "ytnffhdlkkfphbaa", sum := "318a50bcca992431053df3498d02f2d2f0252fe4e48b367c5b3e86cc38e095cb", func := "bailiwick/bailiwicklaw06.DiskOwn", spec := "diskOwn", inPlace := ["internal/abi.NoEscape", "internal/bytealg.MakeNoZero"], apart := false }
def DiskOwnSaid : Prop := diskOwnRow.holds Try.pinned (OpenSpec.ofChange diskOwnSpec)

/-- ITS FALSE NEIGHBOUR: 'it returns false'. Refute it at one input. -/
def diskOwnWrong : ChangeSpec := { name := "diskOwn", fn := fun _ => fun
  | [d1, d2] => { results := [.lit (.bool false)], args := [d1, d2] }
  | _ => none }
def DiskOwnWrongFalsely : Prop := diskOwnRow.holds Try.pinned (OpenSpec.ofChange diskOwnWrong)

/-- 'bailiwicklaw06.DiskFuse': WHATEVER THE INPUT: true; the input reads as it did. -/
def diskFuseSpec : ChangeSpec := { name := "diskFuse", fn := fun _ => fun
  | [d1, d2] => { results := [.lit (.bool true)], args := [d1, d2] }
  | _ => none }
def diskFuseRow : OpenClaim := { program := "ytnffhdlkkfphbaa", sum := "318a50bcca992431053df3498d02f2d2f0252fe4e48b367c5b3e86cc38e095cb", func := "bailiwick/bailiwicklaw06.DiskFuse", spec := "diskFuse", inPlace := ["internal/abi.NoEscape", "internal/bytealg.MakeNoZero"], apart := false }
def DiskFuseSaid : Prop := diskFuseRow.holds Try.pinned (OpenSpec.ofChange diskFuseSpec)

/-- ITS FALSE NEIGHBOUR: 'it returns false'. Refute it at one input. -/
def diskFuseWrong : ChangeSpec := { name := "diskFuse", fn := fun _ => fun
  | [d1, d2] => { results := [.lit (.bool false)], args := [d1, d2] }
  | _ => none }
def DiskFuseWrongFalsely : Prop := diskFuseRow.holds Try.pinned (OpenSpec.ofChange diskFuseWrong)

/-- 'bailiwicklaw06.DiskTwice': WHATEVER THE INPUT: true; the input reads as it did. -/
def diskTwiceSpec : ChangeSpec := { name := "diskTwice", fn := fun _ => fun
  | [d1, d2, d3] => { results := [.lit (.bool true)], args := [d1, d2, d3] }
  | _ => none }
def diskTwiceRow : OpenClaim := { program := "ytnffhdlkkfphbaa", sum := "318a50bcca992431053df3498d02f2d2f0252fe4e48b367c5b3e86cc38e095cb", func := "bailiwick/bailiwicklaw06.DiskTwice", spec := "diskTwice", inPlace := ["internal/abi.NoEscape", "internal/bytealg.MakeNoZero"], apart := false }
def DiskTwiceSaid : Prop := diskTwiceRow.holds Try.pinned (OpenSpec.ofChange diskTwiceSpec)

/-- ITS FALSE NEIGHBOUR: 'it returns false'. Refute it at one input. -/
def diskTwiceWrong : ChangeSpec := { name := "diskTwice", fn := fun _ => fun
  | [d1, d2, d3] => { results := [.lit (.bool false)], args := [d1, d2, d3] }
  | _ => none }
def DiskTwiceWrongFalsely : Prop := diskTwiceRow.holds Try.pinned (OpenSpec.ofChange diskTwiceWrong)

/-- 'bailiwicklaw06.DiskLasts': WHATEVER THE INPUT: true; the input reads as it did. -/
def diskLastsSpec : ChangeSpec := { name := "diskLasts", fn := fun _ => fun
  | [d1, d2, d3] => { results := [.lit (.bool true)], args := [d1, d2, d3] }
  | _ => none }
def diskLastsRow : OpenClaim := { program := "ytnffhdlkkfphbaa", sum := "318a50bcca992431053df3498d02f2d2f0252fe4e48b367c5b3e86cc38e095cb", func := "bailiwick/bailiwicklaw06.DiskLasts", spec := "diskLasts", inPlace := ["internal/abi.NoEscape", "internal/bytealg.MakeNoZero"], apart := false }
def DiskLastsSaid : Prop := diskLastsRow.holds Try.pinned (OpenSpec.ofChange diskLastsSpec)

/-- ITS FALSE NEIGHBOUR: 'it returns false'. Refute it at one input. -/
def diskLastsWrong : ChangeSpec := { name := "diskLasts", fn := fun _ => fun
  | [d1, d2, d3] => { results := [.lit (.bool false)], args := [d1, d2, d3] }
  | _ => none }
def DiskLastsWrongFalsely : Prop := diskLastsRow.holds Try.pinned (OpenSpec.ofChange diskLastsWrong)

/-- 'bailiwicklaw06.DiskPlays': WHATEVER THE INPUT: true; the input reads as it did. -/
def diskPlaysSpec : ChangeSpec := { name := "diskPlays", fn := fun _ => fun
  | [d1, d2] => { results := [.lit (.bool true)], args := [d1, d2] }
  | _ => none }
def diskPlaysRow : OpenClaim := { program := "ytnffhdlkkfphbaa", sum := "318a50bcca992431053df3498d02f2d2f0252fe4e48b367c5b3e86cc38e095cb", func := "bailiwick/bailiwicklaw06.DiskPlays", spec := "diskPlays", inPlace := ["internal/abi.NoEscape", "internal/bytealg.MakeNoZero"], apart := false }
def DiskPlaysSaid : Prop := diskPlaysRow.holds Try.pinned (OpenSpec.ofChange diskPlaysSpec)

/-- ITS FALSE NEIGHBOUR: 'it returns false'. Refute it at one input. -/
def diskPlaysWrong : ChangeSpec := { name := "diskPlays", fn := fun _ => fun
  | [d1, d2] => { results := [.lit (.bool false)], args := [d1, d2] }
  | _ => none }
def DiskPlaysWrongFalsely : Prop := diskPlaysRow.holds Try.pinned (OpenSpec.ofChange diskPlaysWrong)

/-- 'bailiwicklaw07.PageLays': WHATEVER THE INPUT: true; the input reads as it did. -/
def pageLaysSpec : ChangeSpec := { name := "pageLays", fn := fun _ => fun
  | [d1, d2, d3, d4, d5, d6, d7] => { results := [.lit (.bool true)], args := [d1, d2, d3, d4, d5, d6, d7] }
  | _ => none }
def pageLaysRow : OpenClaim := { program := "ytnffhdlkkfphbaa", sum := "318a50bcca992431053df3498d02f2d2f0252fe4e48b367c5b3e86cc38e095cb", func := "bailiwick/bailiwicklaw07.PageLays", spec := "pageLays", inPlace := ["internal/abi.NoEscape", "internal/bytealg.MakeNoZero"], apart := false }
def PageLaysSaid : Prop := pageLaysRow.holds Try.pinned (OpenSpec.ofChange pageLaysSpec)

/-- ITS FALSE NEIGHBOUR: 'it returns false'. Refute it at one input. -/
def pageLaysWrong : ChangeSpec := { name := "pageLays", fn := fun _ => fun
  | [d1, d2, d3, d4, d5, d6, d7] => { results := [.lit (.bool false)], args := [d1, d2, d3, d4, d5, d6, d7] }
  | _ => none }
def PageLaysWrongFalsely : Prop := pageLaysRow.holds Try.pinned (OpenSpec.ofChange pageLaysWrong)

/- THE SECOND FORM. 'bulk': how many values and letters a reading holds, each counted each time it is reached (what is shared counts as often as it is met; a slice's spare places count too). A statement '..UptoSaid' is the law's where the arguments, and the package variables that the reading takes, are together of bulk at most 1048576: NARROWER than '..Said'. Prove '..Said' where nothing that the law and all that it calls make is longer than what came in: it says more and counts as full. Else prove '..UptoSaid'. A law counts once. -/
mutual
def uptoBulk {H : Type} : DataW H → Nat
  | .lit (.string bytes) => bytes.length + 1
  | .lit _ => 1
  | .nil => 1
  | .ptr d => uptoBulk d + 1
  | .slice elems spare => uptoBulkAll elems + uptoBulkAll spare + 1
  | .agg parts => uptoBulkAll parts + 1
  | .iface _ d => uptoBulk d + 1
  | .map entries => uptoBulkEntries entries + 1
  | .held _ => 1
def uptoBulkAll {H : Type} : List (DataW H) → Nat
  | [] => 0
  | d :: r => uptoBulk d + uptoBulkAll r
def uptoBulkEntries {H : Type} : List (Lit × DataW H) → Nat
  | [] => 0
  | x :: r => uptoBulkEntry x + uptoBulkEntries r
def uptoBulkEntry {H : Type} : Lit × DataW H → Nat
  | (.string bytes, d) => bytes.length + uptoBulk d + 1
  | (_, d) => uptoBulk d + 1
 end
def uptoSmall : (H : Type) → List (DataW H) → Bool := fun _ ds => decide (uptoBulkAll ds ≤ 1048576)
def OpenSpec.upto (s : _root_.Go.ChangeSpec) : _root_.Go.OpenSpec := { _root_.Go.OpenSpec.ofChange s with cond := some uptoSmall }

/-- 'bailiwicklaw07.PageSeals', WHERE WHAT IT READS IS OF BULK AT MOST 1048576: true; the input reads as it did. -/
def pageSealsUptoRow : OpenClaim := { program := "ytnffhdlkkfphbaa", sum := "318a50bcca992431053df3498d02f2d2f0252fe4e48b367c5b3e86cc38e095cb", func := "bailiwick/bailiwicklaw07.PageSeals", spec := "pageSeals", apart := false, narrowed := true }
def PageSealsUptoSaid : Prop := pageSealsUptoRow.holds Try.pinned (OpenSpec.upto pageSealsSpec)

/-- 'bailiwicklaw07.PageBack', WHERE WHAT IT READS IS OF BULK AT MOST 1048576: true; the input reads as it did. -/
def pageBackUptoRow : OpenClaim := { program := "ytnffhdlkkfphbaa", sum := "318a50bcca992431053df3498d02f2d2f0252fe4e48b367c5b3e86cc38e095cb", func := "bailiwick/bailiwicklaw07.PageBack", spec := "pageBack", apart := false, narrowed := true }
def PageBackUptoSaid : Prop := pageBackUptoRow.holds Try.pinned (OpenSpec.upto pageBackSpec)

/-- 'bailiwicklaw07.PageByte', WHERE WHAT IT READS IS OF BULK AT MOST 1048576: true; the input reads as it did. -/
def pageByteUptoRow : OpenClaim := { program := "ytnffhdlkkfphbaa", sum := "318a50bcca992431053df3498d02f2d2f0252fe4e48b367c5b3e86cc38e095cb", func := "bailiwick/bailiwicklaw07.PageByte", spec := "pageByte", apart := false, narrowed := true }
def PageByteUptoSaid : Prop := pageByteUptoRow.holds Try.pinned (OpenSpec.upto pageByteSpec)

/-- 'bailiwicklaw07.PageSums', WHERE WHAT IT READS IS OF BULK AT MOST 1048576: true; the input reads as it did. -/
def pageSumsUptoRow : OpenClaim := { program := "ytnffhdlkkfphbaa", sum := "318a50bcca992431053df3498d02f2d2f0252fe4e48b367c5b3e86cc38e095cb", func := "bailiwick/bailiwicklaw07.PageSums", spec := "pageSums", apart := false, narrowed := true }
def PageSumsUptoSaid : Prop := pageSumsUptoRow.holds Try.pinned (OpenSpec.upto pageSumsSpec)

/-- 'bailiwicklaw06.DiskOwn', WHERE WHAT IT READS IS OF BULK AT MOST 1048576: true; the input reads as it did. -/
def diskOwnUptoRow : OpenClaim := { program := "ytnffhdlkkfphbaa", sum := "318a50bcca992431053df3498d02f2d2f0252fe4e48b367c5b3e86cc38e095cb", func := "bailiwick/bailiwicklaw06.DiskOwn", spec := "diskOwn", inPlace := ["internal/abi.NoEscape", "internal/bytealg.MakeNoZero"], apart := false, narrowed := true }
def DiskOwnUptoSaid : Prop := diskOwnUptoRow.holds Try.pinned (OpenSpec.upto diskOwnSpec)

/-- 'bailiwicklaw06.DiskFuse', WHERE WHAT IT READS IS OF BULK AT MOST 1048576: true; the input reads as it did. -/
def diskFuseUptoRow : OpenClaim := { program := "ytnffhdlkkfphbaa", sum := "318a50bcca992431053df3498d02f2d2f0252fe4e48b367c5b3e86cc38e095cb", func := "bailiwick/bailiwicklaw06.DiskFuse", spec := "diskFuse", inPlace := ["internal/abi.NoEscape", "internal/bytealg.MakeNoZero"], apart := false, narrowed := true }
def DiskFuseUptoSaid : Prop := diskFuseUptoRow.holds Try.pinned (OpenSpec.upto diskFuseSpec)

/-- 'bailiwicklaw06.DiskTwice', WHERE WHAT IT READS IS OF BULK AT MOST 1048576: true; the input reads as it did. -/
def diskTwiceUptoRow : OpenClaim := { program := "ytnffhdlkkfphbaa", sum := "318a50bcca992431053df3498d02f2d2f0252fe4e48b367c5b3e86cc38e095cb", func := "bailiwick/bailiwicklaw06.DiskTwice", spec := "diskTwice", inPlace := ["internal/abi.NoEscape", "internal/bytealg.MakeNoZero"], apart := false, narrowed := true }
def DiskTwiceUptoSaid : Prop := diskTwiceUptoRow.holds Try.pinned (OpenSpec.upto diskTwiceSpec)

/-- 'bailiwicklaw06.DiskLasts', WHERE WHAT IT READS IS OF BULK AT MOST 1048576: true; the input reads as it did. -/
def diskLastsUptoRow : OpenClaim := { program := "ytnffhdlkkfphbaa", sum := "318a50bcca992431053df3498d02f2d2f0252fe4e48b367c5b3e86cc38e095cb", func := "bailiwick/bailiwicklaw06.DiskLasts", spec := "diskLasts", inPlace := ["internal/abi.NoEscape", "internal/bytealg.MakeNoZero"], apart := false, narrowed := true }
def DiskLastsUptoSaid : Prop := diskLastsUptoRow.holds Try.pinned (OpenSpec.upto diskLastsSpec)

/-- 'bailiwicklaw06.DiskPlays', WHERE WHAT IT READS IS OF BULK AT MOST 1048576: true; the input reads as it did. -/
def diskPlaysUptoRow : OpenClaim := { program := "ytnffhdlkkfphbaa", sum := "318a50bcca992431053df3498d02f2d2f0252fe4e48b367c5b3e86cc38e095cb", func := "bailiwick/bailiwicklaw06.DiskPlays", spec := "diskPlays", inPlace := ["internal/abi.NoEscape", "internal/bytealg.MakeNoZero"], apart := false, narrowed := true }
def DiskPlaysUptoSaid : Prop := diskPlaysUptoRow.holds Try.pinned (OpenSpec.upto diskPlaysSpec)

/-- 'bailiwicklaw07.PageLays', WHERE WHAT IT READS IS OF BULK AT MOST 1048576: true; the input reads as it did. -/
def pageLaysUptoRow : OpenClaim := { program := "ytnffhdlkkfphbaa", sum := "318a50bcca992431053df3498d02f2d2f0252fe4e48b367c5b3e86cc38e095cb", func := "bailiwick/bailiwicklaw07.PageLays", spec := "pageLays", inPlace := ["internal/abi.NoEscape", "internal/bytealg.MakeNoZero"], apart := false, narrowed := true }
def PageLaysUptoSaid : Prop := pageLaysUptoRow.holds Try.pinned (OpenSpec.upto pageLaysSpec)

end Rows
end Go.Proofs.Ytnffhdlkkfphbaa
