/-
  branch.
-/
import Derived.Test.YtnghbfegijnolaaA7
namespace Go.Proofs.Ytnghbfegijnolaa.A
set_option linter.unusedVariables false
set_option linter.unusedSimpArgs false
open Go.RowKit Go.Proofs.YtnghbfegijnolaaW.PrintWords Go.Proofs.YtnghbfegijnolaaW.PrintLast Go.Proofs.YtnghbfegijnolaaW.PrintMore
open Go.Lib (hid)
theorem At.key {w : World} {x : Nd} {b : Bool} {A1 A2 A3 : Option Addr} {n1 n2 n3 c1 c2 c3 : Nat} (H : At w (.agg #[.bool b, .slice A1 n1 c1, .slice A2 n2 c2, .slice A3 n3 c3]) x) (i : Nat) (hi : i < x.keys.length) : ∃ ad, A1 = some ad ∧ w.cell? (ad.add i) = some (.int .u64 (x.keys.getD i 0)) := by
  obtain ⟨B1, d1, B2, d2, B3, d3, e, ⟨h1, l1⟩, _, _⟩ := H
  have e1 : A1 = B1 := by
    have h := congrArg (fun v => match v with | Value.agg cs => (match cs[1]? with | some (Value.slice a _ _) => a | _ => none) | _ => none) e
    exact h
  subst e1
  exact C_one h1 0 i hi
end Go.Proofs.Ytnghbfegijnolaa.A
