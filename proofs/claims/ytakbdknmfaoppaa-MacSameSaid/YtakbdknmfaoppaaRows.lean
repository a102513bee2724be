/-
  No cell of these rows narrows 'for every input' (looked for: loops, veiled, ifaces, maps, wideKeys, modest, calm, conditions, laid).
  DERIVED. THE GIVEN ROWS OF THIS SEAT. 8 by the template 'for every input the law returns true; each argument reads behind the call as it read before'; 0 by the template 'total and deterministic' (their statements: YtakbdknmfaoppaaTotals.lean).
  GIVEN WITH THE SEED: the statements are not yours to turn. If you find one false, say at which input.
  Laid BY PROGRAM, IN A SANDBOX (cutbox-rows.mjs): the forced cells as the released guide's own fill.sh prints them over the translation 88d6e5b24c59ad9f… (all of the seat's roots in one cut). By AI agents, Wed Nov 11 2026. No macro, syntax, notation, axiom, sorry.
-/
import Derived.Test.YtakbdknmfaoppaaChecked
import GoSem.Claim
import GoSem.ClaimJoined
import GoSem.ClaimMapViews
import Derived.JoinedTies
import Derived.KernelRfl
namespace Go.Proofs.Ytakbdknmfaoppaa
/- THE CELL 'sum', in the pinned program and in every row, IS THE sha256 OF THE DUMP (.gsa) THAT YtakbdknmfaoppaaProg.lean LOADS. Nothing in Lean hashes anything: it is a label: what it is worth is what the hold of that sum in a sandbox is worth. -/
noncomputable def Try.pinned : Pinned := { name := "ytakbdknmfaoppaa", sum := "88d6e5b24c59ad9f1241c7d9bbcd72876809e5a33b21ad578ae44a08e28dcd70", checked := Try.checked }
namespace Rows
def none {H : Type} : Left H := { results := [], args := [] }

/-- 'bailiwicklaw03.ShaSums': WHATEVER THE INPUT: true; the input reads as it did. -/
def shaSumsSpec : ChangeSpec := { name := "shaSums", fn := fun _ => fun
  | [d] => { results := [.lit (.bool true)], args := [d] }
  | _ => none }
def shaSumsRow : OpenClaim := { program := "ytakbdknmfaoppaa", sum := "88d6e5b24c59ad9f1241c7d9bbcd72876809e5a33b21ad578ae44a08e28dcd70", func := "bailiwick/bailiwicklaw03.ShaSums", spec := "shaSums", inPlace := ["internal/abi.NoEscape", "internal/bytealg.MakeNoZero"], apart := false }
def ShaSumsSaid : Prop := shaSumsRow.holds Try.pinned (OpenSpec.ofChange shaSumsSpec)

/-- ITS FALSE NEIGHBOUR: 'it returns false'. Refute it at one input. -/
def shaSumsWrong : ChangeSpec := { name := "shaSums", fn := fun _ => fun
  | [d] => { results := [.lit (.bool false)], args := [d] }
  | _ => none }
def ShaSumsWrongFalsely : Prop := shaSumsRow.holds Try.pinned (OpenSpec.ofChange shaSumsWrong)

/-- 'bailiwicklaw03.ShaSizes': WHATEVER THE INPUT: true; the input reads as it did. -/
def shaSizesSpec : ChangeSpec := { name := "shaSizes", fn := fun _ => fun
  | [d] => { results := [.lit (.bool true)], args := [d] }
  | _ => none }
def shaSizesRow : OpenClaim := { program := "ytakbdknmfaoppaa", sum := "88d6e5b24c59ad9f1241c7d9bbcd72876809e5a33b21ad578ae44a08e28dcd70", func := "bailiwick/bailiwicklaw03.ShaSizes", spec := "shaSizes", inPlace := ["internal/abi.NoEscape", "internal/bytealg.MakeNoZero"], apart := false }
def ShaSizesSaid : Prop := shaSizesRow.holds Try.pinned (OpenSpec.ofChange shaSizesSpec)

/-- ITS FALSE NEIGHBOUR: 'it returns false'. Refute it at one input. -/
def shaSizesWrong : ChangeSpec := { name := "shaSizes", fn := fun _ => fun
  | [d] => { results := [.lit (.bool false)], args := [d] }
  | _ => none }
def ShaSizesWrongFalsely : Prop := shaSizesRow.holds Try.pinned (OpenSpec.ofChange shaSizesWrong)

/-- 'bailiwicklaw03.ShaKnown': WHATEVER THE INPUT: true; the input reads as it did. -/
def shaKnownSpec : ChangeSpec := { name := "shaKnown", fn := fun _ => fun
  | [d] => { results := [.lit (.bool true)], args := [d] }
  | _ => none }
def shaKnownRow : OpenClaim := { program := "ytakbdknmfaoppaa", sum := "88d6e5b24c59ad9f1241c7d9bbcd72876809e5a33b21ad578ae44a08e28dcd70", func := "bailiwick/bailiwicklaw03.ShaKnown", spec := "shaKnown", inPlace := ["internal/abi.NoEscape", "internal/bytealg.MakeNoZero"], apart := false }
def ShaKnownSaid : Prop := shaKnownRow.holds Try.pinned (OpenSpec.ofChange shaKnownSpec)

/-- ITS FALSE NEIGHBOUR: 'it returns false'. Refute it at one input. -/
def shaKnownWrong : ChangeSpec := { name := "shaKnown", fn := fun _ => fun
  | [d] => { results := [.lit (.bool false)], args := [d] }
  | _ => none }
def ShaKnownWrongFalsely : Prop := shaKnownRow.holds Try.pinned (OpenSpec.ofChange shaKnownWrong)

/-- 'bailiwicklaw03.ShaDigits': WHATEVER THE INPUT: true; the input reads as it did. -/
def shaDigitsSpec : ChangeSpec := { name := "shaDigits", fn := fun _ => fun
  | [d1, d2, d3] => { results := [.lit (.bool true)], args := [d1, d2, d3] }
  | _ => none }
def shaDigitsRow : OpenClaim := { program := "ytakbdknmfaoppaa", sum := "88d6e5b24c59ad9f1241c7d9bbcd72876809e5a33b21ad578ae44a08e28dcd70", func := "bailiwick/bailiwicklaw03.ShaDigits", spec := "shaDigits", inPlace := ["internal/abi.NoEscape", "internal/bytealg.MakeNoZero"], apart := false }
def ShaDigitsSaid : Prop := shaDigitsRow.holds Try.pinned (OpenSpec.ofChange shaDigitsSpec)

/-- ITS FALSE NEIGHBOUR: 'it returns false'. Refute it at one input. -/
def shaDigitsWrong : ChangeSpec := { name := "shaDigits", fn := fun _ => fun
  | [d1, d2, d3] => { results := [.lit (.bool false)], args := [d1, d2, d3] }
  | _ => none }
def ShaDigitsWrongFalsely : Prop := shaDigitsRow.holds Try.pinned (OpenSpec.ofChange shaDigitsWrong)

/-- 'bailiwicklaw04.MacSame': WHATEVER THE INPUT: true; the input reads as it did. -/
def macSameSpec : ChangeSpec := { name := "macSame", fn := fun _ => fun
  | [d1, d2, d3] => { results := [.lit (.bool true)], args := [d1, d2, d3] }
  | _ => none }
def macSameRow : OpenClaim := { program := "ytakbdknmfaoppaa", sum := "88d6e5b24c59ad9f1241c7d9bbcd72876809e5a33b21ad578ae44a08e28dcd70", func := "bailiwick/bailiwicklaw04.MacSame", spec := "macSame", inPlace := ["internal/abi.NoEscape", "internal/bytealg.MakeNoZero"], unfollowed := true, recurses := true, apart := false }
def MacSameSaid : Prop := macSameRow.holds Try.pinned (OpenSpec.ofChange macSameSpec)

/-- ITS FALSE NEIGHBOUR: 'it returns false'. Refute it at one input. -/
def macSameWrong : ChangeSpec := { name := "macSame", fn := fun _ => fun
  | [d1, d2, d3] => { results := [.lit (.bool false)], args := [d1, d2, d3] }
  | _ => none }
def MacSameWrongFalsely : Prop := macSameRow.holds Try.pinned (OpenSpec.ofChange macSameWrong)

/-- 'bailiwicklaw04.MacMade': WHATEVER THE INPUT: true; the input reads as it did. -/
def macMadeSpec : ChangeSpec := { name := "macMade", fn := fun _ => fun
  | [d1, d2] => { results := [.lit (.bool true)], args := [d1, d2] }
  | _ => none }
def macMadeRow : OpenClaim := { program := "ytakbdknmfaoppaa", sum := "88d6e5b24c59ad9f1241c7d9bbcd72876809e5a33b21ad578ae44a08e28dcd70", func := "bailiwick/bailiwicklaw04.MacMade", spec := "macMade", inPlace := ["internal/abi.NoEscape", "internal/bytealg.MakeNoZero"], unfollowed := true, recurses := true, apart := false }
def MacMadeSaid : Prop := macMadeRow.holds Try.pinned (OpenSpec.ofChange macMadeSpec)

/-- ITS FALSE NEIGHBOUR: 'it returns false'. Refute it at one input. -/
def macMadeWrong : ChangeSpec := { name := "macMade", fn := fun _ => fun
  | [d1, d2] => { results := [.lit (.bool false)], args := [d1, d2] }
  | _ => none }
def MacMadeWrongFalsely : Prop := macMadeRow.holds Try.pinned (OpenSpec.ofChange macMadeWrong)

/-- 'bailiwicklaw04.MacTags': WHATEVER THE INPUT: true; the input reads as it did. -/
def macTagsSpec : ChangeSpec := { name := "macTags", fn := fun _ => fun
  | [d1, d2, d3] => { results := [.lit (.bool true)], args := [d1, d2, d3] }
  | _ => none }
def macTagsRow : OpenClaim := { program := "ytakbdknmfaoppaa", sum := "88d6e5b24c59ad9f1241c7d9bbcd72876809e5a33b21ad578ae44a08e28dcd70", func := "bailiwick/bailiwicklaw04.MacTags", spec := "macTags", inPlace := ["internal/abi.NoEscape", "internal/bytealg.MakeNoZero"], unfollowed := true, recurses := true, apart := false }
def MacTagsSaid : Prop := macTagsRow.holds Try.pinned (OpenSpec.ofChange macTagsSpec)

/-- ITS FALSE NEIGHBOUR: 'it returns false'. Refute it at one input. -/
def macTagsWrong : ChangeSpec := { name := "macTags", fn := fun _ => fun
  | [d1, d2, d3] => { results := [.lit (.bool false)], args := [d1, d2, d3] }
  | _ => none }
def MacTagsWrongFalsely : Prop := macTagsRow.holds Try.pinned (OpenSpec.ofChange macTagsWrong)

/-- 'bailiwicklaw04.MacKeys': WHATEVER THE INPUT: true; the input reads as it did. -/
def macKeysSpec : ChangeSpec := { name := "macKeys", fn := fun _ => fun
  | [d1, d2, d3] => { results := [.lit (.bool true)], args := [d1, d2, d3] }
  | _ => none }
def macKeysRow : OpenClaim := { program := "ytakbdknmfaoppaa", sum := "88d6e5b24c59ad9f1241c7d9bbcd72876809e5a33b21ad578ae44a08e28dcd70", func := "bailiwick/bailiwicklaw04.MacKeys", spec := "macKeys", inPlace := ["internal/abi.NoEscape", "internal/bytealg.MakeNoZero"], unfollowed := true, recurses := true, apart := false }
def MacKeysSaid : Prop := macKeysRow.holds Try.pinned (OpenSpec.ofChange macKeysSpec)

/-- ITS FALSE NEIGHBOUR: 'it returns false'. Refute it at one input. -/
def macKeysWrong : ChangeSpec := { name := "macKeys", fn := fun _ => fun
  | [d1, d2, d3] => { results := [.lit (.bool false)], args := [d1, d2, d3] }
  | _ => none }
def MacKeysWrongFalsely : Prop := macKeysRow.holds Try.pinned (OpenSpec.ofChange macKeysWrong)

/- THE SECOND FORM. 'bulk': how many values and letters a reading holds, each counted each time it is reached (what is shared counts as often as it is met; a slice's spare places count too). A statement '..UptoSaid' is the law's where the arguments, and the package variables that the reading takes, are together of bulk at most 1048576: NARROWER than '..Said'. Prove '..Said' where nothing that the law and all that it calls make is longer than what came in: it says more and counts as full. Else prove '..UptoSaid'. A law counts once. -/
mutual
def uptoBulk {H : Type} : DataW H → Nat
  | .lit (.string bytes) => bytes.length + 1
  | .lit _ => 1
  | .nil => 1
  | .ptr d => uptoBulk d + 1
  | .slice elems spare => uptoBulkAll elems + uptoBulkAll spare + 1
  | .agg parts => uptoBulkAll parts + 1
  | .iface _ d => uptoBulk d + 1
  | .map entries => uptoBulkEntries entries + 1
  | .held _ => 1
def uptoBulkAll {H : Type} : List (DataW H) → Nat
  | [] => 0
  | d :: r => uptoBulk d + uptoBulkAll r
def uptoBulkEntries {H : Type} : List (Lit × DataW H) → Nat
  | [] => 0
  | x :: r => uptoBulkEntry x + uptoBulkEntries r
def uptoBulkEntry {H : Type} : Lit × DataW H → Nat
  | (.string bytes, d) => bytes.length + uptoBulk d + 1
  | (_, d) => uptoBulk d + 1
 end
def uptoSmall : (H : Type) → List (DataW H) → Bool := fun _ ds => decide (uptoBulkAll ds ≤ 1048576)
def OpenSpec.upto (s : _root_.Go.ChangeSpec) : _root_.Go.OpenSpec := { _root_.Go.OpenSpec.ofChange s with cond := some uptoSmall }

/-- 'bailiwicklaw03.ShaSums', WHERE WHAT IT READS IS OF BULK AT MOST 1048576: true; the input reads as it did. -/
def shaSumsUptoRow : OpenClaim := { program := "ytakbdknmfaoppaa", sum := "88d6e5b24c59ad9f1241c7d9bbcd72876809e5a33b21ad578ae44a08e28dcd70", func := "bailiwick/bailiwicklaw03.ShaSums", spec := "shaSums", inPlace := ["internal/abi.NoEscape", "internal/bytealg.MakeNoZero"], apart := false, narrowed := true }
def ShaSumsUptoSaid : Prop := shaSumsUptoRow.holds Try.pinned (OpenSpec.upto shaSumsSpec)

/-- 'bailiwicklaw03.ShaSizes', WHERE WHAT IT READS IS OF BULK AT MOST 1048576: true; the input reads as it did. -/
def shaSizesUptoRow : OpenClaim := { program := "ytakbdknmfaoppaa", sum := "88d6e5b24c59ad9f1241c7d9bbcd72876809e5a33b21ad578ae44a08e28dcd70", func := "bailiwick/bailiwicklaw03.ShaSizes", spec := "shaSizes", inPlace := ["internal/abi.NoEscape", "internal/bytealg.MakeNoZero"], apart := false, narrowed := true }
def ShaSizesUptoSaid : Prop := shaSizesUptoRow.holds Try.pinned (OpenSpec.upto shaSizesSpec)

/-- 'bailiwicklaw03.ShaKnown', WHERE WHAT IT READS IS OF BULK AT MOST 1048576: true; the input reads as it did. -/
def shaKnownUptoRow : OpenClaim := { program := "ytakbdknmfaoppaa", sum := "88d6e5b24c59ad9f1241c7d9bbcd72876809e5a33b21ad578ae44a08e28dcd70", func := "bailiwick/bailiwicklaw03.ShaKnown", spec := "shaKnown", inPlace := ["internal/abi.NoEscape", "internal/bytealg.MakeNoZero"], apart := false, narrowed := true }
def ShaKnownUptoSaid : Prop := shaKnownUptoRow.holds Try.pinned (OpenSpec.upto shaKnownSpec)

/-- 'bailiwicklaw03.ShaDigits', WHERE WHAT IT READS IS OF BULK AT MOST 1048576: true; the input reads as it did. -/
def shaDigitsUptoRow : OpenClaim := { program := "ytakbdknmfaoppaa", sum := "88d6e5b24c59ad9f1241c7d9bbcd72876809e5a33b21ad578ae44a08e28dcd70", func := "bailiwick/bailiwicklaw03.ShaDigits", spec := "shaDigits", inPlace := ["internal/abi.NoEscape", "internal/bytealg.MakeNoZero"], apart := false, narrowed := true }
def ShaDigitsUptoSaid : Prop := shaDigitsUptoRow.holds Try.pinned (OpenSpec.upto shaDigitsSpec)

/-- 'bailiwicklaw04.MacSame', WHERE WHAT IT READS IS OF BULK AT MOST 1048576: true; the input reads as it did. -/
def macSameUptoRow : OpenClaim := { program := "ytakbdknmfaoppaa", sum := "88d6e5b24c59ad9f1241c7d9bbcd72876809e5a33b21ad578ae44a08e28dcd70", func := "bailiwick/bailiwicklaw04.MacSame", spec := "macSame", inPlace := ["internal/abi.NoEscape", "internal/bytealg.MakeNoZero"], unfollowed := true, recurses := true, apart := false, narrowed := true }
def MacSameUptoSaid : Prop := macSameUptoRow.holds Try.pinned (OpenSpec.upto macSameSpec)

/-- 'bailiwicklaw04.MacMade', WHERE WHAT IT READS IS OF BULK AT MOST 1048576: true; the input reads as it did. -/
def macMadeUptoRow : OpenClaim := { program := "ytakbdknmfaoppaa", sum := "88d6e5b24c59ad9f1241c7d9bbcd72876809e5a33b21ad578ae44a08e28dcd70", func := "bailiwick/bailiwicklaw04.MacMade", spec := "macMade", inPlace := ["internal/abi.NoEscape", "internal/bytealg.MakeNoZero"], unfollowed := true, recurses := true, apart := false, narrowed := true }
def MacMadeUptoSaid : Prop := macMadeUptoRow.holds Try.pinned (OpenSpec.upto macMadeSpec)

/-- 'bailiwicklaw04.MacTags', WHERE WHAT IT READS IS OF BULK AT MOST 1048576: true; the input reads as it did. -/
def macTagsUptoRow : OpenClaim := { program := "ytakbdknmfaoppaa", sum := "88d6e5b24c59ad9f1241c7d9bbcd72876809e5a33b21ad578ae44a08e28dcd70", func := "bailiwick/bailiwicklaw04.MacTags", spec := "macTags", inPlace := ["internal/abi.NoEscape", "internal/bytealg.MakeNoZero"], unfollowed := true, recurses := true, apart := false, narrowed := true }
def MacTagsUptoSaid : Prop := macTagsUptoRow.holds Try.pinned (OpenSpec.upto macTagsSpec)

/-- 'bailiwicklaw04.MacKeys', WHERE WHAT IT READS IS OF BULK AT MOST 1048576: true; the input reads as it did. -/
def macKeysUptoRow : OpenClaim := { program := "ytakbdknmfaoppaa", sum := "88d6e5b24c59ad9f1241c7d9bbcd72876809e5a33b21ad578ae44a08e28dcd70", func := "bailiwick/bailiwicklaw04.MacKeys", spec := "macKeys", inPlace := ["internal/abi.NoEscape", "internal/bytealg.MakeNoZero"], unfollowed := true, recurses := true, apart := false, narrowed := true }
def MacKeysUptoSaid : Prop := macKeysUptoRow.holds Try.pinned (OpenSpec.upto macKeysSpec)

end Rows
end Go.Proofs.Ytakbdknmfaoppaa
