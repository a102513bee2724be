/-
  No cell of these rows narrows 'for every input' (looked for: loops, veiled, ifaces, maps, wideKeys, modest, calm, conditions, laid).
  DERIVED. THE GIVEN ROWS OF THIS SEAT. 6 by the template 'for every input the law returns true; each argument reads behind the call as it read before'; 0 by the template 'total and deterministic' (their statements: YtapfidadgafpbaaTotals.lean).
  GIVEN WITH THE SEED: the statements are not yours to turn. If you find one false, say at which input.
  Laid BY PROGRAM, IN A SANDBOX (cutbox-rows.mjs): the forced cells as the released guide's own fill.sh prints them over the translation a2a01839c96d85e8… (all of the seat's roots in one cut). By AI agents, Wed Nov 11 2026. No macro, syntax, notation, axiom, sorry.
-/
import Derived.Test.YtapfidadgafpbaaChecked
import GoSem.Claim
import GoSem.ClaimJoined
import GoSem.ClaimMapViews
import Derived.JoinedTies
import Derived.KernelRfl
namespace Go.Proofs.Ytapfidadgafpbaa
/- THE CELL 'sum', in the pinned program and in every row, IS THE sha256 OF THE DUMP (.gsa) THAT YtapfidadgafpbaaProg.lean LOADS. Nothing in Lean hashes anything: it is a label: what it is worth is what the hold of that sum in a sandbox is worth. -/
noncomputable def Try.pinned : Pinned := { name := "ytapfidadgafpbaa", sum := "a2a01839c96d85e8189cdb9698760266c031824e4fd0caf06295bec849470996", checked := Try.checked }
namespace Rows
def none {H : Type} : Left H := { results := [], args := [] }

/-- 'bailiwicklaw14.RecNames': WHATEVER THE INPUT: true; the input reads as it did. -/
def recNamesSpec : ChangeSpec := { name := "recNames", fn := fun _ => fun
  | [d1, d2, d3] => { results := [.lit (.bool true)], args := [d1, d2, d3] }
  | _ => none }
def recNamesRow : OpenClaim := { program := "ytapfidadgafpbaa", sum := "a2a01839c96d85e8189cdb9698760266c031824e4fd0caf06295bec849470996", func := "bailiwick/bailiwicklaw14.RecNames", spec := "recNames", inPlace := ["internal/abi.NoEscape"], unfollowed := true, recurses := true, apart := false }
def RecNamesSaid : Prop := recNamesRow.holds Try.pinned (OpenSpec.ofChange recNamesSpec)

/-- ITS FALSE NEIGHBOUR: 'it returns false'. Refute it at one input. -/
def recNamesWrong : ChangeSpec := { name := "recNames", fn := fun _ => fun
  | [d1, d2, d3] => { results := [.lit (.bool false)], args := [d1, d2, d3] }
  | _ => none }
def RecNamesWrongFalsely : Prop := recNamesRow.holds Try.pinned (OpenSpec.ofChange recNamesWrong)

/-- 'bailiwicklaw14.RecSlots': WHATEVER THE INPUT: true; the input reads as it did. -/
def recSlotsSpec : ChangeSpec := { name := "recSlots", fn := fun _ => fun
  | [d1, d2, d3] => { results := [.lit (.bool true)], args := [d1, d2, d3] }
  | _ => none }
def recSlotsRow : OpenClaim := { program := "ytapfidadgafpbaa", sum := "a2a01839c96d85e8189cdb9698760266c031824e4fd0caf06295bec849470996", func := "bailiwick/bailiwicklaw14.RecSlots", spec := "recSlots", unfollowed := true, recurses := true, apart := false }
def RecSlotsSaid : Prop := recSlotsRow.holds Try.pinned (OpenSpec.ofChange recSlotsSpec)

/-- ITS FALSE NEIGHBOUR: 'it returns false'. Refute it at one input. -/
def recSlotsWrong : ChangeSpec := { name := "recSlots", fn := fun _ => fun
  | [d1, d2, d3] => { results := [.lit (.bool false)], args := [d1, d2, d3] }
  | _ => none }
def RecSlotsWrongFalsely : Prop := recSlotsRow.holds Try.pinned (OpenSpec.ofChange recSlotsWrong)

/-- 'bailiwicklaw14.RecCaps': WHATEVER THE INPUT: true; the input reads as it did. -/
def recCapsSpec : ChangeSpec := { name := "recCaps", fn := fun _ => fun
  | [d1, d2, d3] => { results := [.lit (.bool true)], args := [d1, d2, d3] }
  | _ => none }
def recCapsRow : OpenClaim := { program := "ytapfidadgafpbaa", sum := "a2a01839c96d85e8189cdb9698760266c031824e4fd0caf06295bec849470996", func := "bailiwick/bailiwicklaw14.RecCaps", spec := "recCaps", unfollowed := true, recurses := true, apart := false }
def RecCapsSaid : Prop := recCapsRow.holds Try.pinned (OpenSpec.ofChange recCapsSpec)

/-- ITS FALSE NEIGHBOUR: 'it returns false'. Refute it at one input. -/
def recCapsWrong : ChangeSpec := { name := "recCaps", fn := fun _ => fun
  | [d1, d2, d3] => { results := [.lit (.bool false)], args := [d1, d2, d3] }
  | _ => none }
def RecCapsWrongFalsely : Prop := recCapsRow.holds Try.pinned (OpenSpec.ofChange recCapsWrong)

/-- 'bailiwicklaw14.RecOwners': WHATEVER THE INPUT: true; the input reads as it did. -/
def recOwnersSpec : ChangeSpec := { name := "recOwners", fn := fun _ => fun
  | [d1, d2, d3] => { results := [.lit (.bool true)], args := [d1, d2, d3] }
  | _ => none }
def recOwnersRow : OpenClaim := { program := "ytapfidadgafpbaa", sum := "a2a01839c96d85e8189cdb9698760266c031824e4fd0caf06295bec849470996", func := "bailiwick/bailiwicklaw14.RecOwners", spec := "recOwners", inPlace := ["internal/abi.NoEscape"], unfollowed := true, recurses := true, apart := false }
def RecOwnersSaid : Prop := recOwnersRow.holds Try.pinned (OpenSpec.ofChange recOwnersSpec)

/-- ITS FALSE NEIGHBOUR: 'it returns false'. Refute it at one input. -/
def recOwnersWrong : ChangeSpec := { name := "recOwners", fn := fun _ => fun
  | [d1, d2, d3] => { results := [.lit (.bool false)], args := [d1, d2, d3] }
  | _ => none }
def RecOwnersWrongFalsely : Prop := recOwnersRow.holds Try.pinned (OpenSpec.ofChange recOwnersWrong)

/-- 'bailiwicklaw14.RecBack': WHATEVER THE INPUT: true; the input reads as it did. -/
def recBackSpec : ChangeSpec := { name := "recBack", fn := fun _ => fun
  | [d1, d2, d3, d4] => { results := [.lit (.bool true)], args := [d1, d2, d3, d4] }
  | _ => none }
def recBackRow : OpenClaim := { program := "ytapfidadgafpbaa", sum := "a2a01839c96d85e8189cdb9698760266c031824e4fd0caf06295bec849470996", func := "bailiwick/bailiwicklaw14.RecBack", spec := "recBack", unfollowed := true, recurses := true, apart := false }
def RecBackSaid : Prop := recBackRow.holds Try.pinned (OpenSpec.ofChange recBackSpec)

/-- ITS FALSE NEIGHBOUR: 'it returns false'. Refute it at one input. -/
def recBackWrong : ChangeSpec := { name := "recBack", fn := fun _ => fun
  | [d1, d2, d3, d4] => { results := [.lit (.bool false)], args := [d1, d2, d3, d4] }
  | _ => none }
def RecBackWrongFalsely : Prop := recBackRow.holds Try.pinned (OpenSpec.ofChange recBackWrong)

/-- 'bailiwicklaw14.RecAgain': WHATEVER THE INPUT: true; the input reads as it did. -/
def recAgainSpec : ChangeSpec := { name := "recAgain", fn := fun _ => fun
  | [d1, d2] => { results := [.lit (.bool true)], args := [d1, d2] }
  | _ => none }
def recAgainRow : OpenClaim := { program := "ytapfidadgafpbaa", sum := "a2a01839c96d85e8189cdb9698760266c031824e4fd0caf06295bec849470996", func := "bailiwick/bailiwicklaw14.RecAgain", spec := "recAgain", inPlace := ["internal/abi.NoEscape"], unfollowed := true, recurses := true, apart := false }
def RecAgainSaid : Prop := recAgainRow.holds Try.pinned (OpenSpec.ofChange recAgainSpec)

/-- ITS FALSE NEIGHBOUR: 'it returns false'. Refute it at one input. -/
def recAgainWrong : ChangeSpec := { name := "recAgain", fn := fun _ => fun
  | [d1, d2] => { results := [.lit (.bool false)], args := [d1, d2] }
  | _ => none }
def RecAgainWrongFalsely : Prop := recAgainRow.holds Try.pinned (OpenSpec.ofChange recAgainWrong)

/- THE SECOND FORM. 'bulk': how many values and letters a reading holds, each counted each time it is reached (what is shared counts as often as it is met; a slice's spare places count too). A statement '..UptoSaid' is the law's where the arguments, and the package variables that the reading takes, are together of bulk at most 1048576: NARROWER than '..Said'. Prove '..Said' where nothing that the law and all that it calls make is longer than what came in: it says more and counts as full. Else prove '..UptoSaid'. A law counts once. -/
mutual
def uptoBulk {H : Type} : DataW H → Nat
  | .lit (.string bytes) => bytes.length + 1
  | .lit _ => 1
  | .nil => 1
  | .ptr d => uptoBulk d + 1
  | .slice elems spare => uptoBulkAll elems + uptoBulkAll spare + 1
  | .agg parts => uptoBulkAll parts + 1
  | .iface _ d => uptoBulk d + 1
  | .map entries => uptoBulkEntries entries + 1
  | .held _ => 1
def uptoBulkAll {H : Type} : List (DataW H) → Nat
  | [] => 0
  | d :: r => uptoBulk d + uptoBulkAll r
def uptoBulkEntries {H : Type} : List (Lit × DataW H) → Nat
  | [] => 0
  | x :: r => uptoBulkEntry x + uptoBulkEntries r
def uptoBulkEntry {H : Type} : Lit × DataW H → Nat
  | (.string bytes, d) => bytes.length + uptoBulk d + 1
  | (_, d) => uptoBulk d + 1
 end
def uptoSmall : (H : Type) → List (DataW H) → Bool := fun _ ds => decide (uptoBulkAll ds ≤ 1048576)
def OpenSpec.upto (s : _root_.Go.ChangeSpec) : _root_.Go.OpenSpec := { _root_.Go.OpenSpec.ofChange s with cond := some uptoSmall }

/-- 'bailiwicklaw14.RecNames', WHERE WHAT IT READS IS OF BULK AT MOST 1048576: true; the input reads as it did. -/
def recNamesUptoRow : OpenClaim := { program := "ytapfidadgafpbaa", sum := "a2a01839c96d85e8189cdb9698760266c031824e4fd0caf06295bec849470996", func := "bailiwick/bailiwicklaw14.RecNames", spec := "recNames", inPlace := ["internal/abi.NoEscape"], unfollowed := true, recurses := true, apart := false, narrowed := true }
def RecNamesUptoSaid : Prop := recNamesUptoRow.holds Try.pinned (OpenSpec.upto recNamesSpec)

/-- 'bailiwicklaw14.RecSlots', WHERE WHAT IT READS IS OF BULK AT MOST 1048576: true; the input reads as it did. -/
def recSlotsUptoRow : OpenClaim := { program := "ytapfidadgafpbaa", sum := "a2a01839c96d85e8189cdb9698760266c031824e4fd0caf06295bec849470996", func := "bailiwick/bailiwicklaw14.RecSlots", spec := "recSlots", unfollowed := true, recurses := true, apart := false, narrowed := true }
def RecSlotsUptoSaid : Prop := recSlotsUptoRow.holds Try.pinned (OpenSpec.upto recSlotsSpec)

/-- 'bailiwicklaw14.RecCaps', WHERE WHAT IT READS IS OF BULK AT MOST 1048576: true; the input reads as it did. -/
def recCapsUptoRow : OpenClaim := { program := "ytapfidadgafpbaa", sum := "a2a01839c96d85e8189cdb9698760266c031824e4fd0caf06295bec849470996", func := "bailiwick/bailiwicklaw14.RecCaps", spec := "recCaps", unfollowed := true, recurses := true, apart := false, narrowed := true }
def RecCapsUptoSaid : Prop := recCapsUptoRow.holds Try.pinned (OpenSpec.upto recCapsSpec)

/-- 'bailiwicklaw14.RecOwners', WHERE WHAT IT READS IS OF BULK AT MOST 1048576: true; the input reads as it did. -/
def recOwnersUptoRow : OpenClaim := { program := "ytapfidadgafpbaa", sum := "a2a01839c96d85e8189cdb9698760266c031824e4fd0caf06295bec849470996", func := "bailiwick/bailiwicklaw14.RecOwners", spec := "recOwners", inPlace := ["internal/abi.NoEscape"], unfollowed := true, recurses := true, apart := false, narrowed := true }
def RecOwnersUptoSaid : Prop := recOwnersUptoRow.holds Try.pinned (OpenSpec.upto recOwnersSpec)

/-- 'bailiwicklaw14.RecBack', WHERE WHAT IT READS IS OF BULK AT MOST 1048576: true; the input reads as it did. -/
def recBackUptoRow : OpenClaim := { program := "ytapfidadgafpbaa", sum := "a2a01839c96d85e8189cdb9698760266c031824e4fd0caf06295bec849470996", func := "bailiwick/bailiwicklaw14.RecBack", spec := "recBack", unfollowed := true, recurses := true, apart := false, narrowed := true }
def RecBackUptoSaid : Prop := recBackUptoRow.holds Try.pinned (OpenSpec.upto recBackSpec)

/-- 'bailiwicklaw14.RecAgain', WHERE WHAT IT READS IS OF BULK AT MOST 1048576: true; the input reads as it did. -/
def recAgainUptoRow : OpenClaim := { program := "ytapfidadgafpbaa", sum := "a2a01839c96d85e8189cdb9698760266c031824e4fd0caf06295bec849470996", func := "bailiwick/bailiwicklaw14.RecAgain", spec := "recAgain", inPlace := ["internal/abi.NoEscape"], unfollowed := true, recurses := true, apart := false, narrowed := true }
def RecAgainUptoSaid : Prop := recAgainUptoRow.holds Try.pinned (OpenSpec.upto recAgainSpec)

end Rows
end Go.Proofs.Ytapfidadgafpbaa
