-- Written by a program of this session (gp.py): the row of a law. Not trusted: Lean checks it.
import Derived.Test.YtfbcidfbgebbhaaRows
import Derived.Test.YtfbcidfbgebbhaaHandProtoStrange
import Derived.Test.YtfbcidfbgebbhaaAgg
import Derived.WalkKit
import Derived.ProofKit
import Derived.OpenShut
import Derived.ShutString
import Derived.ChangeOld
import Derived.Below
import Derived.SizedLaws
namespace Go.Proofs.Ytfbcidfbgebbhaa.protoStrange
open Go.ChangeShapes Go.WideShapes Go.ChangeAt Go.RowKit Go.Proofs.Ytfbcidfbgebbhaa.Agg
open Go.Joins (field_of_Trod)
open Go.ChangeMaps (open_string shut_string)
set_option linter.unusedVariables false
theorem own : ownKnob Try.prog.godebug = none := by kernel_rfl
theorem cells23 : Try.prog.cellsOf 23 = 13 := by kernel_rfl
set_option maxRecDepth 100000 in
theorem lifted (os : Os) (started : os.Started) (H : Type) (enc : TypeId × Value → H) :
    ReturnsInHanded {} Try.checked os 7 .any (Rows.protoStrangeSpec.pre6 enc Try.prog Try.f7 Rows.protoStrangeRow.domain false) (Rows.protoStrangeSpec.post enc Try.prog Try.f7 false true false false) := by
  refine returnsInHanded_of_change_sized (C := Try.checked) own started (by kernel_rfl) Try.func7
    (ChangeSpec.witness6 (enc := enc) (C := Try.checked) false ⟨#[], #[.agg #[.int .i64 0, .string ByteArray.empty, .string ByteArray.empty, .string ByteArray.empty, .int .i64 0, .int .i64 0, .int .i64 0, .int .i64 0, .int .i64 0, .int .i32 0, .bool false, .int .i64 0, .int .i64 0], .int .i64 0], []⟩ 8 (by kernel_rfl) (by kernel_rfl) (by kernel_rfl) (by kernel_rfl)) ?_
  intro W base args ds gs before hval0 hW hcnd hsz0 _
  have hsz : (DataW.weightsEach Try.prog (Try.f7.params.toList ++ Rows.protoStrangeSpec.plain.varTypes Try.prog) (ds ++ gs)).all (· ≤ reachBytes) = true := hsz0
  have hval : ∀ (j : Nat) t v, Try.f7.params[j]? = some t → args[j]? = some v → Value.okWide Try.prog W .any base t v := hval0
  have hW' := hW
  obtain ⟨p, q, hA0, hV, rfl, hfz, hnd⟩ := hW
  have hA : DataW.TrodAll enc Try.prog W 0 (fun _ => true) true Try.f7.params.toList args.toList ds p := hA0
  rw [Try.params7] at hA hval hsz
  obtain ⟨v0, vs0, d0, ds0, p0, q0, hargs, rfl, rfl, h0, r0⟩ := trodAll_cons hA
  obtain ⟨v1, vs1, d1, ds1, p1, q1, rfl, rfl, rfl, h1, r1⟩ := trodAll_cons r0
  obtain ⟨rfl, rfl, rfl⟩ := trodAll_nil r1
  obtain rfl : args = #[v0, v1] := by cases args; simp_all
  obtain ⟨rfl, rfl⟩ := trodVars_none hV
  obtain ⟨c0_0, c0_1, c0_2, c0_3, c0_4, c0_5, c0_6, c0_7, c0_8, c0_9, c0_10, c0_11, c0_12, y0_0, y0_1, y0_2, y0_3, y0_4, y0_5, y0_6, y0_7, y0_8, y0_9, y0_10, y0_11, y0_12, m0, rfl, rfl, rfl, hy0_0, hy0_1, hy0_2, hy0_3, hy0_4, hy0_5, hy0_6, hy0_7, hy0_8, hy0_9, hy0_10, hy0_11, hy0_12⟩ := open_agg13 Try.underlying23 (by kernel_rfl) cells23 (hval 0 23 v0 rfl rfl) h0
  obtain ⟨a0_0, e0_0, rfl, w0_0⟩ := DataW.trod_int Try.underlying3 hy0_0
  obtain ⟨a0_1, e0_1, rfl, y0_1⟩ := DataW.trod_string Try.underlying9 hy0_1
  obtain ⟨a0_2, e0_2, rfl, y0_2⟩ := DataW.trod_string Try.underlying9 hy0_2
  obtain ⟨a0_3, e0_3, rfl, y0_3⟩ := DataW.trod_string Try.underlying9 hy0_3
  obtain ⟨a0_4, e0_4, rfl, w0_4⟩ := DataW.trod_int Try.underlying3 hy0_4
  obtain ⟨a0_5, e0_5, rfl, w0_5⟩ := DataW.trod_int Try.underlying3 hy0_5
  obtain ⟨a0_6, e0_6, rfl, w0_6⟩ := DataW.trod_int Try.underlying3 hy0_6
  obtain ⟨a0_7, e0_7, rfl, w0_7⟩ := DataW.trod_int Try.underlying3 hy0_7
  obtain ⟨a0_8, e0_8, rfl, w0_8⟩ := DataW.trod_int Try.underlying3 hy0_8
  obtain ⟨a0_9, e0_9, rfl, w0_9⟩ := DataW.trod_int Try.underlying21 hy0_9
  obtain ⟨a0_10, e0_10, rfl⟩ := DataW.trod_bool Try.underlying4 hy0_10
  obtain ⟨a0_11, e0_11, rfl, w0_11⟩ := DataW.trod_int Try.underlying3 hy0_11
  obtain ⟨a0_12, e0_12, rfl, w0_12⟩ := DataW.trod_int Try.underlying3 hy0_12
  simp at e0_0 e0_1 e0_2 e0_3 e0_4 e0_5 e0_6 e0_7 e0_8 e0_9 e0_10 e0_11 e0_12
  subst e0_0 e0_1 e0_2 e0_3 e0_4 e0_5 e0_6 e0_7 e0_8 e0_9 e0_10 e0_11 e0_12
  have w0_1 : a0_1.size ≤ 140737488351232 := by
    have z := List.all_eq_true.1 hsz a0_1.data.toList.length (DataW.weights_mem_each (j := 0) (t := 23) rfl rfl _ (by simp [DataW.weights, DataW.weightsEach, Try.underlying23]))
    rw [Array.length_toList] at z
    have z2 := of_decide_eq_true z
    unfold reachBytes at z2
    exact z2
  have w0_2 : a0_2.size ≤ 140737488351232 := by
    have z := List.all_eq_true.1 hsz a0_2.data.toList.length (DataW.weights_mem_each (j := 0) (t := 23) rfl rfl _ (by simp [DataW.weights, DataW.weightsEach, Try.underlying23]))
    rw [Array.length_toList] at z
    have z2 := of_decide_eq_true z
    unfold reachBytes at z2
    exact z2
  have w0_3 : a0_3.size ≤ 140737488351232 := by
    have z := List.all_eq_true.1 hsz a0_3.data.toList.length (DataW.weights_mem_each (j := 0) (t := 23) rfl rfl _ (by simp [DataW.weights, DataW.weightsEach, Try.underlying23]))
    rw [Array.length_toList] at z
    have z2 := of_decide_eq_true z
    unfold reachBytes at z2
    exact z2
  obtain ⟨a1, rfl, rfl, rfl, w1⟩ := open_int Try.underlying3 (hval 1 3 v1 rfl rfl) h1
  clear hA0 hval0 hsz0 hsz
  refine (Pure.ProtoStrange_walk a0_0 a0_1 a0_2 a0_3 a0_4 a0_5 a0_6 a0_7 a0_8 a0_9 a0_10 a0_11 a0_12 a1 W w0_0 w0_1 w0_2 w0_3 w0_4 w0_5 w0_6 w0_7 w0_8 w0_9 w0_11 w0_12 w1).mono fun e W' ⟨he, bel⟩ => ?_
  subst he
  exact ⟨_, rfl, _, _, _, [], _, [], hW', trodAll_mk1 (shut_bool Try.underlying4 _), (trodAll_cons_mk (shut_agg13 (y0 := (.lit (.int .i64 a0_0), [])) (y1 := (.lit (.string a0_1.data.toList), [])) (y2 := (.lit (.string a0_2.data.toList), [])) (y3 := (.lit (.string a0_3.data.toList), [])) (y4 := (.lit (.int .i64 a0_4), [])) (y5 := (.lit (.int .i64 a0_5), [])) (y6 := (.lit (.int .i64 a0_6), [])) (y7 := (.lit (.int .i64 a0_7), [])) (y8 := (.lit (.int .i64 a0_8), [])) (y9 := (.lit (.int .i32 a0_9), [])) (y10 := (.lit (.bool a0_10), [])) (y11 := (.lit (.int .i64 a0_11), [])) (y12 := (.lit (.int .i64 a0_12), [])) Try.underlying23 (by kernel_rfl) cells23 (field_of_Trod (shut_int Try.underlying3 w0_0) rfl) (field_of_Trod (shut_string Try.underlying9 y0_1) rfl) (field_of_Trod (shut_string Try.underlying9 y0_2) rfl) (field_of_Trod (shut_string Try.underlying9 y0_3) rfl) (field_of_Trod (shut_int Try.underlying3 w0_4) rfl) (field_of_Trod (shut_int Try.underlying3 w0_5) rfl) (field_of_Trod (shut_int Try.underlying3 w0_6) rfl) (field_of_Trod (shut_int Try.underlying3 w0_7) rfl) (field_of_Trod (shut_int Try.underlying3 w0_8) rfl) (field_of_Trod (shut_int Try.underlying21 w0_9) rfl) (field_of_Trod (shut_bool Try.underlying4 _) rfl) (field_of_Trod (shut_int Try.underlying3 w0_11) rfl) (field_of_Trod (shut_int Try.underlying3 w0_12) rfl)) (trodAll_cons_mk (shut_int Try.underlying3 w1) trodAll_mk0)), rfl, bel.frame _, fun h => by cases h⟩
theorem over : Rows.protoStrangeRow.holds Try.pinned (OpenSpec.ofChange Rows.protoStrangeSpec) :=
  OpenClaim.holds_of_wide 7 Try.f7 rfl rfl rfl rfl rfl rfl rfl ⟨rfl, rfl, rfl, rfl, rfl⟩ rfl rfl rfl rfl rfl (by kernel_rfl) Try.func7 (by kernel_rfl)
    (of_decide_eq_true (by kernel_rfl)) (by unfold Func.isWrapper; first | (rw [if_pos (by decide +kernel)]; kernel_rfl) | (rw [if_neg (by decide +kernel)]; exact ⟨rfl, rfl⟩))
    (fun os started H enc _ => lifted os started H enc)
theorem proved : Rows.ProtoStrangeSaid := over
#print axioms proved
end Go.Proofs.Ytfbcidfbgebbhaa.protoStrange
namespace Go.Proofs.Ytfbcidfbgebbhaa
/-- The row, under a short name, for the claim. -/
theorem protoStrange_holds : Rows.ProtoStrangeSaid := protoStrange.proved
end Go.Proofs.Ytfbcidfbgebbhaa
