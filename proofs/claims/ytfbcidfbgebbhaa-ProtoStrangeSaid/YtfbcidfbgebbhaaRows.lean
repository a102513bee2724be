/-
  No cell of these rows narrows 'for every input' (looked for: loops, veiled, ifaces, maps, wideKeys, modest, calm, conditions, laid).
  DERIVED. THE GIVEN ROWS OF THIS SEAT. 5 by the template 'for every input the law returns true; each argument reads behind the call as it read before'; 0 by the template 'total and deterministic' (their statements: YtfbcidfbgebbhaaTotals.lean).
  GIVEN WITH THE SEED: the statements are not yours to turn. If you find one false, say at which input.
  Laid BY PROGRAM, IN A SANDBOX (cutbox-rows.mjs): the forced cells as the released guide's own fill.sh prints them over the translation 6ede5c739032707b… (all of the seat's roots in one cut). By AI agents, Wed Nov 11 2026. No macro, syntax, notation, axiom, sorry.
-/
import Derived.Test.YtfbcidfbgebbhaaChecked
import GoSem.Claim
import GoSem.ClaimJoined
import GoSem.ClaimMapViews
import Derived.JoinedTies
import Derived.KernelRfl
namespace Go.Proofs.Ytfbcidfbgebbhaa
/- THE CELL 'sum', in the pinned program and in every row, IS THE sha256 OF THE DUMP (.gsa) THAT YtfbcidfbgebbhaaProg.lean LOADS. Nothing in Lean hashes anything: it is a label: what it is worth is what the hold of that sum in a sandbox is worth. -/
noncomputable def Try.pinned : Pinned := { name := "ytfbcidfbgebbhaa", sum := "6ede5c739032707b2595c136b8d5779901bf0c4cbd8a07113192e90cd84a1b0f", checked := Try.checked }
namespace Rows
def none {H : Type} : Left H := { results := [], args := [] }

/-- 'bailiwicklaw21.ProtoBack': WHATEVER THE INPUT: true; the input reads as it did. -/
def protoBackSpec : ChangeSpec := { name := "protoBack", fn := fun _ => fun
  | [d1, d2, d3, d4] => { results := [.lit (.bool true)], args := [d1, d2, d3, d4] }
  | _ => none }
def protoBackRow : OpenClaim := { program := "ytfbcidfbgebbhaa", sum := "6ede5c739032707b2595c136b8d5779901bf0c4cbd8a07113192e90cd84a1b0f", func := "bailiwick/bailiwicklaw21.ProtoBack", spec := "protoBack", unfollowed := true, recurses := true, apart := false }
def ProtoBackSaid : Prop := protoBackRow.holds Try.pinned (OpenSpec.ofChange protoBackSpec)

/-- ITS FALSE NEIGHBOUR: 'it returns false'. Refute it at one input. -/
def protoBackWrong : ChangeSpec := { name := "protoBack", fn := fun _ => fun
  | [d1, d2, d3, d4] => { results := [.lit (.bool false)], args := [d1, d2, d3, d4] }
  | _ => none }
def ProtoBackWrongFalsely : Prop := protoBackRow.holds Try.pinned (OpenSpec.ofChange protoBackWrong)

/-- 'bailiwicklaw21.ProtoSizes': WHATEVER THE INPUT: true; the input reads as it did. -/
def protoSizesSpec : ChangeSpec := { name := "protoSizes", fn := fun _ => fun
  | [d1, d2] => { results := [.lit (.bool true)], args := [d1, d2] }
  | _ => none }
def protoSizesRow : OpenClaim := { program := "ytfbcidfbgebbhaa", sum := "6ede5c739032707b2595c136b8d5779901bf0c4cbd8a07113192e90cd84a1b0f", func := "bailiwick/bailiwicklaw21.ProtoSizes", spec := "protoSizes", unfollowed := true, recurses := true, apart := false }
def ProtoSizesSaid : Prop := protoSizesRow.holds Try.pinned (OpenSpec.ofChange protoSizesSpec)

/-- ITS FALSE NEIGHBOUR: 'it returns false'. Refute it at one input. -/
def protoSizesWrong : ChangeSpec := { name := "protoSizes", fn := fun _ => fun
  | [d1, d2] => { results := [.lit (.bool false)], args := [d1, d2] }
  | _ => none }
def ProtoSizesWrongFalsely : Prop := protoSizesRow.holds Try.pinned (OpenSpec.ofChange protoSizesWrong)

/-- 'bailiwicklaw21.ProtoAnswers': WHATEVER THE INPUT: true; the input reads as it did. -/
def protoAnswersSpec : ChangeSpec := { name := "protoAnswers", fn := fun _ => fun
  | [d1, d2, d3, d4] => { results := [.lit (.bool true)], args := [d1, d2, d3, d4] }
  | _ => none }
def protoAnswersRow : OpenClaim := { program := "ytfbcidfbgebbhaa", sum := "6ede5c739032707b2595c136b8d5779901bf0c4cbd8a07113192e90cd84a1b0f", func := "bailiwick/bailiwicklaw21.ProtoAnswers", spec := "protoAnswers", unfollowed := true, recurses := true, apart := false }
def ProtoAnswersSaid : Prop := protoAnswersRow.holds Try.pinned (OpenSpec.ofChange protoAnswersSpec)

/-- ITS FALSE NEIGHBOUR: 'it returns false'. Refute it at one input. -/
def protoAnswersWrong : ChangeSpec := { name := "protoAnswers", fn := fun _ => fun
  | [d1, d2, d3, d4] => { results := [.lit (.bool false)], args := [d1, d2, d3, d4] }
  | _ => none }
def ProtoAnswersWrongFalsely : Prop := protoAnswersRow.holds Try.pinned (OpenSpec.ofChange protoAnswersWrong)

/-- 'bailiwicklaw21.ProtoOps': WHATEVER THE INPUT: true; the input reads as it did. -/
def protoOpsSpec : ChangeSpec := { name := "protoOps", fn := fun _ => fun
  | [d1, d2, d3] => { results := [.lit (.bool true)], args := [d1, d2, d3] }
  | _ => none }
def protoOpsRow : OpenClaim := { program := "ytfbcidfbgebbhaa", sum := "6ede5c739032707b2595c136b8d5779901bf0c4cbd8a07113192e90cd84a1b0f", func := "bailiwick/bailiwicklaw21.ProtoOps", spec := "protoOps", unfollowed := true, recurses := true, apart := false }
def ProtoOpsSaid : Prop := protoOpsRow.holds Try.pinned (OpenSpec.ofChange protoOpsSpec)

/-- ITS FALSE NEIGHBOUR: 'it returns false'. Refute it at one input. -/
def protoOpsWrong : ChangeSpec := { name := "protoOps", fn := fun _ => fun
  | [d1, d2, d3] => { results := [.lit (.bool false)], args := [d1, d2, d3] }
  | _ => none }
def ProtoOpsWrongFalsely : Prop := protoOpsRow.holds Try.pinned (OpenSpec.ofChange protoOpsWrong)

/-- 'bailiwicklaw21.ProtoStrange': WHATEVER THE INPUT: true; the input reads as it did. -/
def protoStrangeSpec : ChangeSpec := { name := "protoStrange", fn := fun _ => fun
  | [d1, d2] => { results := [.lit (.bool true)], args := [d1, d2] }
  | _ => none }
def protoStrangeRow : OpenClaim := { program := "ytfbcidfbgebbhaa", sum := "6ede5c739032707b2595c136b8d5779901bf0c4cbd8a07113192e90cd84a1b0f", func := "bailiwick/bailiwicklaw21.ProtoStrange", spec := "protoStrange", unfollowed := true, recurses := true, apart := false }
def ProtoStrangeSaid : Prop := protoStrangeRow.holds Try.pinned (OpenSpec.ofChange protoStrangeSpec)

/-- ITS FALSE NEIGHBOUR: 'it returns false'. Refute it at one input. -/
def protoStrangeWrong : ChangeSpec := { name := "protoStrange", fn := fun _ => fun
  | [d1, d2] => { results := [.lit (.bool false)], args := [d1, d2] }
  | _ => none }
def ProtoStrangeWrongFalsely : Prop := protoStrangeRow.holds Try.pinned (OpenSpec.ofChange protoStrangeWrong)

/- THE SECOND FORM. 'bulk': how many values and letters a reading holds, each counted each time it is reached (what is shared counts as often as it is met; a slice's spare places count too). A statement '..UptoSaid' is the law's where the arguments, and the package variables that the reading takes, are together of bulk at most 1048576: NARROWER than '..Said'. Prove '..Said' where nothing that the law and all that it calls make is longer than what came in: it says more and counts as full. Else prove '..UptoSaid'. A law counts once. -/
mutual
def uptoBulk {H : Type} : DataW H → Nat
  | .lit (.string bytes) => bytes.length + 1
  | .lit _ => 1
  | .nil => 1
  | .ptr d => uptoBulk d + 1
  | .slice elems spare => uptoBulkAll elems + uptoBulkAll spare + 1
  | .agg parts => uptoBulkAll parts + 1
  | .iface _ d => uptoBulk d + 1
  | .map entries => uptoBulkEntries entries + 1
  | .held _ => 1
def uptoBulkAll {H : Type} : List (DataW H) → Nat
  | [] => 0
  | d :: r => uptoBulk d + uptoBulkAll r
def uptoBulkEntries {H : Type} : List (Lit × DataW H) → Nat
  | [] => 0
  | x :: r => uptoBulkEntry x + uptoBulkEntries r
def uptoBulkEntry {H : Type} : Lit × DataW H → Nat
  | (.string bytes, d) => bytes.length + uptoBulk d + 1
  | (_, d) => uptoBulk d + 1
 end
def uptoSmall : (H : Type) → List (DataW H) → Bool := fun _ ds => decide (uptoBulkAll ds ≤ 1048576)
def OpenSpec.upto (s : _root_.Go.ChangeSpec) : _root_.Go.OpenSpec := { _root_.Go.OpenSpec.ofChange s with cond := some uptoSmall }

/-- 'bailiwicklaw21.ProtoBack', WHERE WHAT IT READS IS OF BULK AT MOST 1048576: true; the input reads as it did. -/
def protoBackUptoRow : OpenClaim := { program := "ytfbcidfbgebbhaa", sum := "6ede5c739032707b2595c136b8d5779901bf0c4cbd8a07113192e90cd84a1b0f", func := "bailiwick/bailiwicklaw21.ProtoBack", spec := "protoBack", unfollowed := true, recurses := true, apart := false, narrowed := true }
def ProtoBackUptoSaid : Prop := protoBackUptoRow.holds Try.pinned (OpenSpec.upto protoBackSpec)

/-- 'bailiwicklaw21.ProtoSizes', WHERE WHAT IT READS IS OF BULK AT MOST 1048576: true; the input reads as it did. -/
def protoSizesUptoRow : OpenClaim := { program := "ytfbcidfbgebbhaa", sum := "6ede5c739032707b2595c136b8d5779901bf0c4cbd8a07113192e90cd84a1b0f", func := "bailiwick/bailiwicklaw21.ProtoSizes", spec := "protoSizes", unfollowed := true, recurses := true, apart := false, narrowed := true }
def ProtoSizesUptoSaid : Prop := protoSizesUptoRow.holds Try.pinned (OpenSpec.upto protoSizesSpec)

/-- 'bailiwicklaw21.ProtoAnswers', WHERE WHAT IT READS IS OF BULK AT MOST 1048576: true; the input reads as it did. -/
def protoAnswersUptoRow : OpenClaim := { program := "ytfbcidfbgebbhaa", sum := "6ede5c739032707b2595c136b8d5779901bf0c4cbd8a07113192e90cd84a1b0f", func := "bailiwick/bailiwicklaw21.ProtoAnswers", spec := "protoAnswers", unfollowed := true, recurses := true, apart := false, narrowed := true }
def ProtoAnswersUptoSaid : Prop := protoAnswersUptoRow.holds Try.pinned (OpenSpec.upto protoAnswersSpec)

/-- 'bailiwicklaw21.ProtoOps', WHERE WHAT IT READS IS OF BULK AT MOST 1048576: true; the input reads as it did. -/
def protoOpsUptoRow : OpenClaim := { program := "ytfbcidfbgebbhaa", sum := "6ede5c739032707b2595c136b8d5779901bf0c4cbd8a07113192e90cd84a1b0f", func := "bailiwick/bailiwicklaw21.ProtoOps", spec := "protoOps", unfollowed := true, recurses := true, apart := false, narrowed := true }
def ProtoOpsUptoSaid : Prop := protoOpsUptoRow.holds Try.pinned (OpenSpec.upto protoOpsSpec)

/-- 'bailiwicklaw21.ProtoStrange', WHERE WHAT IT READS IS OF BULK AT MOST 1048576: true; the input reads as it did. -/
def protoStrangeUptoRow : OpenClaim := { program := "ytfbcidfbgebbhaa", sum := "6ede5c739032707b2595c136b8d5779901bf0c4cbd8a07113192e90cd84a1b0f", func := "bailiwick/bailiwicklaw21.ProtoStrange", spec := "protoStrange", unfollowed := true, recurses := true, apart := false, narrowed := true }
def ProtoStrangeUptoSaid : Prop := protoStrangeUptoRow.holds Try.pinned (OpenSpec.upto protoStrangeSpec)

end Rows
end Go.Proofs.Ytfbcidfbgebbhaa
