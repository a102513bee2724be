-- Written by a program of this session (gp.py): the row of a law. Not trusted: Lean checks it.
import Derived.Test.YtfbcidfbgebbhaaRows
import Derived.Test.YtfbcidfbgebbhaaHandProtoOps
import Derived.Test.YtfbcidfbgebbhaaAgg
import Derived.WalkKit
import Derived.ProofKit
import Derived.OpenShut
import Derived.ShutString
import Derived.ChangeOld
import Derived.Below
import Derived.SizedLaws
namespace Go.Proofs.Ytfbcidfbgebbhaa.protoOps
open Go.ChangeShapes Go.WideShapes Go.ChangeAt Go.RowKit Go.Proofs.Ytfbcidfbgebbhaa.Agg
open Go.Joins (field_of_Trod)
open Go.ChangeMaps (open_string shut_string)
set_option linter.unusedVariables false
theorem own : ownKnob Try.prog.godebug = none := by kernel_rfl
theorem cells23 : Try.prog.cellsOf 23 = 13 := by kernel_rfl
set_option maxRecDepth 100000 in
theorem lifted (os : Os) (started : os.Started) (H : Type) (enc : TypeId × Value → H) :
    ReturnsInHanded {} Try.checked os 6 .any (Rows.protoOpsSpec.pre6 enc Try.prog Try.f6 Rows.protoOpsRow.domain false) (Rows.protoOpsSpec.post enc Try.prog Try.f6 false true false false) := by
  refine returnsInHanded_of_change_sized (C := Try.checked) own started (by kernel_rfl) Try.func6
    (ChangeSpec.witness6 (enc := enc) (C := Try.checked) false ⟨#[], #[.int .i64 0, .agg #[.int .i64 0, .string ByteArray.empty, .string ByteArray.empty, .string ByteArray.empty, .int .i64 0, .int .i64 0, .int .i64 0, .int .i64 0, .int .i64 0, .int .i32 0, .bool false, .int .i64 0, .int .i64 0], .int .i64 0], []⟩ 8 (by kernel_rfl) (by kernel_rfl) (by kernel_rfl) (by kernel_rfl)) ?_
  intro W base args ds gs before hval0 hW hcnd hsz0 _
  have hsz : (DataW.weightsEach Try.prog (Try.f6.params.toList ++ Rows.protoOpsSpec.plain.varTypes Try.prog) (ds ++ gs)).all (· ≤ reachBytes) = true := hsz0
  have hval : ∀ (j : Nat) t v, Try.f6.params[j]? = some t → args[j]? = some v → Value.okWide Try.prog W .any base t v := hval0
  have hW' := hW
  obtain ⟨p, q, hA0, hV, rfl, hfz, hnd⟩ := hW
  have hA : DataW.TrodAll enc Try.prog W 0 (fun _ => true) true Try.f6.params.toList args.toList ds p := hA0
  rw [Try.params6] at hA hval hsz
  obtain ⟨v0, vs0, d0, ds0, p0, q0, hargs, rfl, rfl, h0, r0⟩ := trodAll_cons hA
  obtain ⟨v1, vs1, d1, ds1, p1, q1, rfl, rfl, rfl, h1, r1⟩ := trodAll_cons r0
  obtain ⟨v2, vs2, d2, ds2, p2, q2, rfl, rfl, rfl, h2, r2⟩ := trodAll_cons r1
  obtain ⟨rfl, rfl, rfl⟩ := trodAll_nil r2
  obtain rfl : args = #[v0, v1, v2] := by cases args; simp_all
  obtain ⟨rfl, rfl⟩ := trodVars_none hV
  obtain ⟨a0, rfl, rfl, rfl, w0⟩ := open_int Try.underlying3 (hval 0 3 v0 rfl rfl) h0
  obtain ⟨c1_0, c1_1, c1_2, c1_3, c1_4, c1_5, c1_6, c1_7, c1_8, c1_9, c1_10, c1_11, c1_12, y1_0, y1_1, y1_2, y1_3, y1_4, y1_5, y1_6, y1_7, y1_8, y1_9, y1_10, y1_11, y1_12, m1, rfl, rfl, rfl, hy1_0, hy1_1, hy1_2, hy1_3, hy1_4, hy1_5, hy1_6, hy1_7, hy1_8, hy1_9, hy1_10, hy1_11, hy1_12⟩ := open_agg13 Try.underlying23 (by kernel_rfl) cells23 (hval 1 23 v1 rfl rfl) h1
  obtain ⟨a1_0, e1_0, rfl, w1_0⟩ := DataW.trod_int Try.underlying3 hy1_0
  obtain ⟨a1_1, e1_1, rfl, y1_1⟩ := DataW.trod_string Try.underlying9 hy1_1
  obtain ⟨a1_2, e1_2, rfl, y1_2⟩ := DataW.trod_string Try.underlying9 hy1_2
  obtain ⟨a1_3, e1_3, rfl, y1_3⟩ := DataW.trod_string Try.underlying9 hy1_3
  obtain ⟨a1_4, e1_4, rfl, w1_4⟩ := DataW.trod_int Try.underlying3 hy1_4
  obtain ⟨a1_5, e1_5, rfl, w1_5⟩ := DataW.trod_int Try.underlying3 hy1_5
  obtain ⟨a1_6, e1_6, rfl, w1_6⟩ := DataW.trod_int Try.underlying3 hy1_6
  obtain ⟨a1_7, e1_7, rfl, w1_7⟩ := DataW.trod_int Try.underlying3 hy1_7
  obtain ⟨a1_8, e1_8, rfl, w1_8⟩ := DataW.trod_int Try.underlying3 hy1_8
  obtain ⟨a1_9, e1_9, rfl, w1_9⟩ := DataW.trod_int Try.underlying21 hy1_9
  obtain ⟨a1_10, e1_10, rfl⟩ := DataW.trod_bool Try.underlying4 hy1_10
  obtain ⟨a1_11, e1_11, rfl, w1_11⟩ := DataW.trod_int Try.underlying3 hy1_11
  obtain ⟨a1_12, e1_12, rfl, w1_12⟩ := DataW.trod_int Try.underlying3 hy1_12
  simp at e1_0 e1_1 e1_2 e1_3 e1_4 e1_5 e1_6 e1_7 e1_8 e1_9 e1_10 e1_11 e1_12
  subst e1_0 e1_1 e1_2 e1_3 e1_4 e1_5 e1_6 e1_7 e1_8 e1_9 e1_10 e1_11 e1_12
  have w1_1 : a1_1.size ≤ 140737488351232 := by
    have z := List.all_eq_true.1 hsz a1_1.data.toList.length (DataW.weights_mem_each (j := 1) (t := 23) rfl rfl _ (by simp [DataW.weights, DataW.weightsEach, Try.underlying23]))
    rw [Array.length_toList] at z
    have z2 := of_decide_eq_true z
    unfold reachBytes at z2
    exact z2
  have w1_2 : a1_2.size ≤ 140737488351232 := by
    have z := List.all_eq_true.1 hsz a1_2.data.toList.length (DataW.weights_mem_each (j := 1) (t := 23) rfl rfl _ (by simp [DataW.weights, DataW.weightsEach, Try.underlying23]))
    rw [Array.length_toList] at z
    have z2 := of_decide_eq_true z
    unfold reachBytes at z2
    exact z2
  have w1_3 : a1_3.size ≤ 140737488351232 := by
    have z := List.all_eq_true.1 hsz a1_3.data.toList.length (DataW.weights_mem_each (j := 1) (t := 23) rfl rfl _ (by simp [DataW.weights, DataW.weightsEach, Try.underlying23]))
    rw [Array.length_toList] at z
    have z2 := of_decide_eq_true z
    unfold reachBytes at z2
    exact z2
  obtain ⟨a2, rfl, rfl, rfl, w2⟩ := open_int Try.underlying3 (hval 2 3 v2 rfl rfl) h2
  clear hA0 hval0 hsz0 hsz
  refine (Pure.ProtoOps_walk a0 a1_0 a1_1 a1_2 a1_3 a1_4 a1_5 a1_6 a1_7 a1_8 a1_9 a1_10 a1_11 a1_12 a2 W w0 w1_0 w1_1 w1_2 w1_3 w1_4 w1_5 w1_6 w1_7 w1_8 w1_9 w1_11 w1_12 w2).mono fun e W' ⟨he, bel⟩ => ?_
  subst he
  exact ⟨_, rfl, _, _, _, [], _, [], hW', trodAll_mk1 (shut_bool Try.underlying4 _), (trodAll_cons_mk (shut_int Try.underlying3 w0) (trodAll_cons_mk (shut_agg13 (y0 := (.lit (.int .i64 a1_0), [])) (y1 := (.lit (.string a1_1.data.toList), [])) (y2 := (.lit (.string a1_2.data.toList), [])) (y3 := (.lit (.string a1_3.data.toList), [])) (y4 := (.lit (.int .i64 a1_4), [])) (y5 := (.lit (.int .i64 a1_5), [])) (y6 := (.lit (.int .i64 a1_6), [])) (y7 := (.lit (.int .i64 a1_7), [])) (y8 := (.lit (.int .i64 a1_8), [])) (y9 := (.lit (.int .i32 a1_9), [])) (y10 := (.lit (.bool a1_10), [])) (y11 := (.lit (.int .i64 a1_11), [])) (y12 := (.lit (.int .i64 a1_12), [])) Try.underlying23 (by kernel_rfl) cells23 (field_of_Trod (shut_int Try.underlying3 w1_0) rfl) (field_of_Trod (shut_string Try.underlying9 y1_1) rfl) (field_of_Trod (shut_string Try.underlying9 y1_2) rfl) (field_of_Trod (shut_string Try.underlying9 y1_3) rfl) (field_of_Trod (shut_int Try.underlying3 w1_4) rfl) (field_of_Trod (shut_int Try.underlying3 w1_5) rfl) (field_of_Trod (shut_int Try.underlying3 w1_6) rfl) (field_of_Trod (shut_int Try.underlying3 w1_7) rfl) (field_of_Trod (shut_int Try.underlying3 w1_8) rfl) (field_of_Trod (shut_int Try.underlying21 w1_9) rfl) (field_of_Trod (shut_bool Try.underlying4 _) rfl) (field_of_Trod (shut_int Try.underlying3 w1_11) rfl) (field_of_Trod (shut_int Try.underlying3 w1_12) rfl)) (trodAll_cons_mk (shut_int Try.underlying3 w2) trodAll_mk0))), rfl, bel.frame _, fun h => by cases h⟩
theorem over : Rows.protoOpsRow.holds Try.pinned (OpenSpec.ofChange Rows.protoOpsSpec) :=
  OpenClaim.holds_of_wide 6 Try.f6 rfl rfl rfl rfl rfl rfl rfl ⟨rfl, rfl, rfl, rfl, rfl⟩ rfl rfl rfl rfl rfl (by kernel_rfl) Try.func6 (by kernel_rfl)
    (of_decide_eq_true (by kernel_rfl)) (by unfold Func.isWrapper; first | (rw [if_pos (by decide +kernel)]; kernel_rfl) | (rw [if_neg (by decide +kernel)]; exact ⟨rfl, rfl⟩))
    (fun os started H enc _ => lifted os started H enc)
theorem proved : Rows.ProtoOpsSaid := over
#print axioms proved
end Go.Proofs.Ytfbcidfbgebbhaa.protoOps
namespace Go.Proofs.Ytfbcidfbgebbhaa
/-- The row, under a short name, for the claim. -/
theorem protoOps_holds : Rows.ProtoOpsSaid := protoOps.proved
end Go.Proofs.Ytfbcidfbgebbhaa
