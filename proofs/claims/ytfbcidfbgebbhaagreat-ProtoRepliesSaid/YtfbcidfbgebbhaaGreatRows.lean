/-
  No cell of these rows narrows 'for every input' (looked for: loops, veiled, ifaces, maps, wideKeys, modest, calm, conditions, laid).
  DERIVED. THE GIVEN ROWS OF THIS SEAT. 3 by the template 'for every input the law returns true; each argument reads behind the call as it read before'; 0 by the template 'total and deterministic' (their statements: YtfbcidfbgebbhaaGreatTotals.lean).
  GIVEN WITH THE SEED: the statements are not yours to turn. If you find one false, say at which input.
  Laid BY PROGRAM, IN A SANDBOX (cutbox-rows.mjs): the forced cells as the released guide's own fill.sh prints them over the translation d0ab9c4f26c52b48… (all of the seat's roots in one cut). By AI agents, Wed Nov 11 2026. No macro, syntax, notation, axiom, sorry.
-/
import Derived.Test.YtfbcidfbgebbhaaGreatChecked
import GoSem.Claim
import GoSem.ClaimJoined
import GoSem.ClaimMapViews
import Derived.JoinedTies
import Derived.KernelRfl
namespace Go.Proofs.YtfbcidfbgebbhaaGreat
/- THE CELL 'sum', in the pinned program and in every row, IS THE sha256 OF THE DUMP (.gsa) THAT YtfbcidfbgebbhaaGreatProg.lean LOADS. Nothing in Lean hashes anything: it is a label: what it is worth is what the hold of that sum in a sandbox is worth. -/
noncomputable def Tryz.pinned : Pinned := { name := "ytfbcidfbgebbhaagreat", sum := "d0ab9c4f26c52b483b4a54628c43dd108fd18c8b1df5ba2fbcdd5ca073ed59fc", checked := Tryz.checked }
namespace Rows
def none {H : Type} : Left H := { results := [], args := [] }

/-- 'bailiwicklaw21.ProtoReads': WHATEVER THE INPUT: true; the input reads as it did. -/
def protoReadsSpec : ChangeSpec := { name := "protoReads", fn := fun _ => fun
  | [d] => { results := [.lit (.bool true)], args := [d] }
  | _ => none }
def protoReadsRow : OpenClaim := { program := "ytfbcidfbgebbhaagreat", sum := "d0ab9c4f26c52b483b4a54628c43dd108fd18c8b1df5ba2fbcdd5ca073ed59fc", func := "bailiwick/bailiwicklaw21.ProtoReads", spec := "protoReads", unfollowed := true, recurses := true, apart := false }
def ProtoReadsSaid : Prop := protoReadsRow.holds Tryz.pinned (OpenSpec.ofChange protoReadsSpec)

/-- ITS FALSE NEIGHBOUR: 'it returns false'. Refute it at one input. -/
def protoReadsWrong : ChangeSpec := { name := "protoReads", fn := fun _ => fun
  | [d] => { results := [.lit (.bool false)], args := [d] }
  | _ => none }
def ProtoReadsWrongFalsely : Prop := protoReadsRow.holds Tryz.pinned (OpenSpec.ofChange protoReadsWrong)

/-- 'bailiwicklaw21.ProtoReplies': WHATEVER THE INPUT: true; the input reads as it did. -/
def protoRepliesSpec : ChangeSpec := { name := "protoReplies", fn := fun _ => fun
  | [d1, d2, d3, d4] => { results := [.lit (.bool true)], args := [d1, d2, d3, d4] }
  | _ => none }
def protoRepliesRow : OpenClaim := { program := "ytfbcidfbgebbhaagreat", sum := "d0ab9c4f26c52b483b4a54628c43dd108fd18c8b1df5ba2fbcdd5ca073ed59fc", func := "bailiwick/bailiwicklaw21.ProtoReplies", spec := "protoReplies", unfollowed := true, recurses := true, apart := false }
def ProtoRepliesSaid : Prop := protoRepliesRow.holds Tryz.pinned (OpenSpec.ofChange protoRepliesSpec)

/-- ITS FALSE NEIGHBOUR: 'it returns false'. Refute it at one input. -/
def protoRepliesWrong : ChangeSpec := { name := "protoReplies", fn := fun _ => fun
  | [d1, d2, d3, d4] => { results := [.lit (.bool false)], args := [d1, d2, d3, d4] }
  | _ => none }
def ProtoRepliesWrongFalsely : Prop := protoRepliesRow.holds Tryz.pinned (OpenSpec.ofChange protoRepliesWrong)

/-- 'bailiwicklaw21.ProtoWrites': WHATEVER THE INPUT: true; the input reads as it did. -/
def protoWritesSpec : ChangeSpec := { name := "protoWrites", fn := fun _ => fun
  | [d1, d2] => { results := [.lit (.bool true)], args := [d1, d2] }
  | _ => none }
def protoWritesRow : OpenClaim := { program := "ytfbcidfbgebbhaagreat", sum := "d0ab9c4f26c52b483b4a54628c43dd108fd18c8b1df5ba2fbcdd5ca073ed59fc", func := "bailiwick/bailiwicklaw21.ProtoWrites", spec := "protoWrites", unfollowed := true, recurses := true, apart := false }
def ProtoWritesSaid : Prop := protoWritesRow.holds Tryz.pinned (OpenSpec.ofChange protoWritesSpec)

/-- ITS FALSE NEIGHBOUR: 'it returns false'. Refute it at one input. -/
def protoWritesWrong : ChangeSpec := { name := "protoWrites", fn := fun _ => fun
  | [d1, d2] => { results := [.lit (.bool false)], args := [d1, d2] }
  | _ => none }
def ProtoWritesWrongFalsely : Prop := protoWritesRow.holds Tryz.pinned (OpenSpec.ofChange protoWritesWrong)

/- THE SECOND FORM. 'bulk': how many values and letters a reading holds, each counted each time it is reached (what is shared counts as often as it is met; a slice's spare places count too). A statement '..UptoSaid' is the law's where the arguments, and the package variables that the reading takes, are together of bulk at most 1048576: NARROWER than '..Said'. Prove '..Said' where nothing that the law and all that it calls make is longer than what came in: it says more and counts as full. Else prove '..UptoSaid'. A law counts once. -/
mutual
def uptoBulk {H : Type} : DataW H → Nat
  | .lit (.string bytes) => bytes.length + 1
  | .lit _ => 1
  | .nil => 1
  | .ptr d => uptoBulk d + 1
  | .slice elems spare => uptoBulkAll elems + uptoBulkAll spare + 1
  | .agg parts => uptoBulkAll parts + 1
  | .iface _ d => uptoBulk d + 1
  | .map entries => uptoBulkEntries entries + 1
  | .held _ => 1
def uptoBulkAll {H : Type} : List (DataW H) → Nat
  | [] => 0
  | d :: r => uptoBulk d + uptoBulkAll r
def uptoBulkEntries {H : Type} : List (Lit × DataW H) → Nat
  | [] => 0
  | x :: r => uptoBulkEntry x + uptoBulkEntries r
def uptoBulkEntry {H : Type} : Lit × DataW H → Nat
  | (.string bytes, d) => bytes.length + uptoBulk d + 1
  | (_, d) => uptoBulk d + 1
 end
def uptoSmall : (H : Type) → List (DataW H) → Bool := fun _ ds => decide (uptoBulkAll ds ≤ 1048576)
def OpenSpec.upto (s : _root_.Go.ChangeSpec) : _root_.Go.OpenSpec := { _root_.Go.OpenSpec.ofChange s with cond := some uptoSmall }

/-- 'bailiwicklaw21.ProtoReads', WHERE WHAT IT READS IS OF BULK AT MOST 1048576: true; the input reads as it did. -/
def protoReadsUptoRow : OpenClaim := { program := "ytfbcidfbgebbhaagreat", sum := "d0ab9c4f26c52b483b4a54628c43dd108fd18c8b1df5ba2fbcdd5ca073ed59fc", func := "bailiwick/bailiwicklaw21.ProtoReads", spec := "protoReads", unfollowed := true, recurses := true, apart := false, narrowed := true }
def ProtoReadsUptoSaid : Prop := protoReadsUptoRow.holds Tryz.pinned (OpenSpec.upto protoReadsSpec)

/-- 'bailiwicklaw21.ProtoReplies', WHERE WHAT IT READS IS OF BULK AT MOST 1048576: true; the input reads as it did. -/
def protoRepliesUptoRow : OpenClaim := { program := "ytfbcidfbgebbhaagreat", sum := "d0ab9c4f26c52b483b4a54628c43dd108fd18c8b1df5ba2fbcdd5ca073ed59fc", func := "bailiwick/bailiwicklaw21.ProtoReplies", spec := "protoReplies", unfollowed := true, recurses := true, apart := false, narrowed := true }
def ProtoRepliesUptoSaid : Prop := protoRepliesUptoRow.holds Tryz.pinned (OpenSpec.upto protoRepliesSpec)

/-- 'bailiwicklaw21.ProtoWrites', WHERE WHAT IT READS IS OF BULK AT MOST 1048576: true; the input reads as it did. -/
def protoWritesUptoRow : OpenClaim := { program := "ytfbcidfbgebbhaagreat", sum := "d0ab9c4f26c52b483b4a54628c43dd108fd18c8b1df5ba2fbcdd5ca073ed59fc", func := "bailiwick/bailiwicklaw21.ProtoWrites", spec := "protoWrites", unfollowed := true, recurses := true, apart := false, narrowed := true }
def ProtoWritesUptoSaid : Prop := protoWritesUptoRow.holds Tryz.pinned (OpenSpec.upto protoWritesSpec)

end Rows
end Go.Proofs.YtfbcidfbgebbhaaGreat
