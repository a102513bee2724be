-- Written by a program of this session (gp.py): the row of a law. Not trusted: Lean checks it.
import Derived.Test.YtapfidadgafpbaaRows
import Derived.Test.YtapfidadgafpbaaHandRecBack
import Derived.Test.YtapfidadgafpbaaAgg
import Derived.WalkKit
import Derived.ProofKit
import Derived.OpenShut
import Derived.ShutString
import Derived.ChangeOld
import Derived.Below
import Derived.SizedLaws
namespace Go.Proofs.Ytapfidadgafpbaa.recBack
open Go.ChangeShapes Go.WideShapes Go.ChangeAt Go.RowKit Go.Proofs.Ytapfidadgafpbaa.Agg
open Go.Joins (field_of_Trod)
open Go.ChangeMaps (open_string shut_string)
set_option linter.unusedVariables false
theorem own : ownKnob Try.prog.godebug = none := by kernel_rfl
theorem cells23 : Try.prog.cellsOf 23 = 10 := by kernel_rfl
theorem cells26 : Try.prog.cellsOf 26 = 4 := by kernel_rfl
theorem cells34 : Try.prog.cellsOf 34 = 4 := by kernel_rfl
set_option maxRecDepth 100000 in
theorem lifted (os : Os) (started : os.Started) (H : Type) (enc : TypeId × Value → H) :
    ReturnsInHanded {} Try.checked os 7 .any (Rows.recBackSpec.pre6 enc Try.prog Try.f7 Rows.recBackRow.domain false) (Rows.recBackSpec.post enc Try.prog Try.f7 false true false false) := by
  refine returnsInHanded_of_change_sized (C := Try.checked) own started (by kernel_rfl) Try.func7
    (ChangeSpec.witness6 (enc := enc) (C := Try.checked) false ⟨#[], #[.agg #[.int .i64 0, .int .i64 0, .int .i64 0, .int .i64 0, .int .i64 0, .int .i64 0, .int .i64 0, .int .i64 0, .int .i64 0, .bool false], .agg #[.int .i64 0, .string ByteArray.empty, .int .i64 0, .int .i64 0], .agg #[.int .i64 0, .int .i64 0, .int .i64 0, .int .u64 0], .string ByteArray.empty], []⟩ 8 (by kernel_rfl) (by kernel_rfl) (by kernel_rfl) (by kernel_rfl)) ?_
  intro W base args ds gs before hval0 hW hcnd hsz0 _
  have hsz : (DataW.weightsEach Try.prog (Try.f7.params.toList ++ Rows.recBackSpec.plain.varTypes Try.prog) (ds ++ gs)).all (· ≤ reachBytes) = true := hsz0
  have hval : ∀ (j : Nat) t v, Try.f7.params[j]? = some t → args[j]? = some v → Value.okWide Try.prog W .any base t v := hval0
  have hW' := hW
  obtain ⟨p, q, hA0, hV, rfl, hfz, hnd⟩ := hW
  have hA : DataW.TrodAll enc Try.prog W 0 (fun _ => true) true Try.f7.params.toList args.toList ds p := hA0
  rw [Try.params7] at hA hval hsz
  obtain ⟨v0, vs0, d0, ds0, p0, q0, hargs, rfl, rfl, h0, r0⟩ := trodAll_cons hA
  obtain ⟨v1, vs1, d1, ds1, p1, q1, rfl, rfl, rfl, h1, r1⟩ := trodAll_cons r0
  obtain ⟨v2, vs2, d2, ds2, p2, q2, rfl, rfl, rfl, h2, r2⟩ := trodAll_cons r1
  obtain ⟨v3, vs3, d3, ds3, p3, q3, rfl, rfl, rfl, h3, r3⟩ := trodAll_cons r2
  obtain ⟨rfl, rfl, rfl⟩ := trodAll_nil r3
  obtain rfl : args = #[v0, v1, v2, v3] := by cases args; simp_all
  obtain ⟨rfl, rfl⟩ := trodVars_none hV
  obtain ⟨c0_0, c0_1, c0_2, c0_3, c0_4, c0_5, c0_6, c0_7, c0_8, c0_9, y0_0, y0_1, y0_2, y0_3, y0_4, y0_5, y0_6, y0_7, y0_8, y0_9, m0, rfl, rfl, rfl, hy0_0, hy0_1, hy0_2, hy0_3, hy0_4, hy0_5, hy0_6, hy0_7, hy0_8, hy0_9⟩ := open_agg10 Try.underlying23 (by kernel_rfl) cells23 (hval 0 23 v0 rfl rfl) h0
  obtain ⟨a0_0, e0_0, rfl, w0_0⟩ := DataW.trod_int Try.underlying3 hy0_0
  obtain ⟨a0_1, e0_1, rfl, w0_1⟩ := DataW.trod_int Try.underlying3 hy0_1
  obtain ⟨a0_2, e0_2, rfl, w0_2⟩ := DataW.trod_int Try.underlying3 hy0_2
  obtain ⟨a0_3, e0_3, rfl, w0_3⟩ := DataW.trod_int Try.underlying3 hy0_3
  obtain ⟨a0_4, e0_4, rfl, w0_4⟩ := DataW.trod_int Try.underlying3 hy0_4
  obtain ⟨a0_5, e0_5, rfl, w0_5⟩ := DataW.trod_int Try.underlying3 hy0_5
  obtain ⟨a0_6, e0_6, rfl, w0_6⟩ := DataW.trod_int Try.underlying3 hy0_6
  obtain ⟨a0_7, e0_7, rfl, w0_7⟩ := DataW.trod_int Try.underlying3 hy0_7
  obtain ⟨a0_8, e0_8, rfl, w0_8⟩ := DataW.trod_int Try.underlying3 hy0_8
  obtain ⟨a0_9, e0_9, rfl⟩ := DataW.trod_bool Try.underlying4 hy0_9
  simp at e0_0 e0_1 e0_2 e0_3 e0_4 e0_5 e0_6 e0_7 e0_8 e0_9
  subst e0_0 e0_1 e0_2 e0_3 e0_4 e0_5 e0_6 e0_7 e0_8 e0_9
  obtain ⟨c1_0, c1_1, c1_2, c1_3, y1_0, y1_1, y1_2, y1_3, m1, rfl, rfl, rfl, hy1_0, hy1_1, hy1_2, hy1_3⟩ := open_agg4 Try.underlying34 (by kernel_rfl) cells34 (hval 1 34 v1 rfl rfl) h1
  obtain ⟨a1_0, e1_0, rfl, w1_0⟩ := DataW.trod_int Try.underlying3 hy1_0
  obtain ⟨a1_1, e1_1, rfl, y1_1⟩ := DataW.trod_string Try.underlying9 hy1_1
  obtain ⟨a1_2, e1_2, rfl, w1_2⟩ := DataW.trod_int Try.underlying3 hy1_2
  obtain ⟨a1_3, e1_3, rfl, w1_3⟩ := DataW.trod_int Try.underlying3 hy1_3
  simp at e1_0 e1_1 e1_2 e1_3
  subst e1_0 e1_1 e1_2 e1_3
  have w1_1 : a1_1.size ≤ 140737488351232 := by
    have z := List.all_eq_true.1 hsz a1_1.data.toList.length (DataW.weights_mem_each (j := 1) (t := 34) rfl rfl _ (by simp [DataW.weights, DataW.weightsEach, Try.underlying34]))
    rw [Array.length_toList] at z
    have z2 := of_decide_eq_true z
    unfold reachBytes at z2
    exact z2
  obtain ⟨c2_0, c2_1, c2_2, c2_3, y2_0, y2_1, y2_2, y2_3, m2, rfl, rfl, rfl, hy2_0, hy2_1, hy2_2, hy2_3⟩ := open_agg4 Try.underlying26 (by kernel_rfl) cells26 (hval 2 26 v2 rfl rfl) h2
  obtain ⟨a2_0, e2_0, rfl, w2_0⟩ := DataW.trod_int Try.underlying3 hy2_0
  obtain ⟨a2_1, e2_1, rfl, w2_1⟩ := DataW.trod_int Try.underlying3 hy2_1
  obtain ⟨a2_2, e2_2, rfl, w2_2⟩ := DataW.trod_int Try.underlying3 hy2_2
  obtain ⟨a2_3, e2_3, rfl, w2_3⟩ := DataW.trod_int Try.underlying24 hy2_3
  simp at e2_0 e2_1 e2_2 e2_3
  subst e2_0 e2_1 e2_2 e2_3
  obtain ⟨a3, rfl, rfl, rfl, y3⟩ := open_string Try.underlying9 (hval 3 9 v3 rfl rfl) h3
  have w3 : a3.size ≤ 140737488351232 := by
    have z := sized_string hsz (j := 3) (t := 9) rfl rfl
    rw [Array.length_toList] at z
    exact z
  clear hA0 hval0 hsz0 hsz
  refine (Pure.RecBack_walk a0_0 a0_1 a0_2 a0_3 a0_4 a0_5 a0_6 a0_7 a0_8 a0_9 a1_0 a1_1 a1_2 a1_3 a2_0 a2_1 a2_2 a2_3 a3 W w0_0 w0_1 w0_2 w0_3 w0_4 w0_5 w0_6 w0_7 w0_8 w1_0 w1_1 w1_2 w1_3 w2_0 w2_1 w2_2 w2_3 w3).mono fun e W' ⟨he, bel⟩ => ?_
  subst he
  exact ⟨_, rfl, _, _, _, [], _, [], hW', trodAll_mk1 (shut_bool Try.underlying4 _), (trodAll_cons_mk (shut_agg10 (y0 := (.lit (.int .i64 a0_0), [])) (y1 := (.lit (.int .i64 a0_1), [])) (y2 := (.lit (.int .i64 a0_2), [])) (y3 := (.lit (.int .i64 a0_3), [])) (y4 := (.lit (.int .i64 a0_4), [])) (y5 := (.lit (.int .i64 a0_5), [])) (y6 := (.lit (.int .i64 a0_6), [])) (y7 := (.lit (.int .i64 a0_7), [])) (y8 := (.lit (.int .i64 a0_8), [])) (y9 := (.lit (.bool a0_9), [])) Try.underlying23 (by kernel_rfl) cells23 (field_of_Trod (shut_int Try.underlying3 w0_0) rfl) (field_of_Trod (shut_int Try.underlying3 w0_1) rfl) (field_of_Trod (shut_int Try.underlying3 w0_2) rfl) (field_of_Trod (shut_int Try.underlying3 w0_3) rfl) (field_of_Trod (shut_int Try.underlying3 w0_4) rfl) (field_of_Trod (shut_int Try.underlying3 w0_5) rfl) (field_of_Trod (shut_int Try.underlying3 w0_6) rfl) (field_of_Trod (shut_int Try.underlying3 w0_7) rfl) (field_of_Trod (shut_int Try.underlying3 w0_8) rfl) (field_of_Trod (shut_bool Try.underlying4 _) rfl)) (trodAll_cons_mk (shut_agg4 (y0 := (.lit (.int .i64 a1_0), [])) (y1 := (.lit (.string a1_1.data.toList), [])) (y2 := (.lit (.int .i64 a1_2), [])) (y3 := (.lit (.int .i64 a1_3), [])) Try.underlying34 (by kernel_rfl) cells34 (field_of_Trod (shut_int Try.underlying3 w1_0) rfl) (field_of_Trod (shut_string Try.underlying9 y1_1) rfl) (field_of_Trod (shut_int Try.underlying3 w1_2) rfl) (field_of_Trod (shut_int Try.underlying3 w1_3) rfl)) (trodAll_cons_mk (shut_agg4 (y0 := (.lit (.int .i64 a2_0), [])) (y1 := (.lit (.int .i64 a2_1), [])) (y2 := (.lit (.int .i64 a2_2), [])) (y3 := (.lit (.int .u64 a2_3), [])) Try.underlying26 (by kernel_rfl) cells26 (field_of_Trod (shut_int Try.underlying3 w2_0) rfl) (field_of_Trod (shut_int Try.underlying3 w2_1) rfl) (field_of_Trod (shut_int Try.underlying3 w2_2) rfl) (field_of_Trod (shut_int Try.underlying24 w2_3) rfl)) (trodAll_cons_mk (shut_string Try.underlying9 y3) trodAll_mk0)))), rfl, bel.frame _, fun h => by cases h⟩
theorem over : Rows.recBackRow.holds Try.pinned (OpenSpec.ofChange Rows.recBackSpec) :=
  OpenClaim.holds_of_wide 7 Try.f7 rfl rfl rfl rfl rfl rfl rfl ⟨rfl, rfl, rfl, rfl, rfl⟩ rfl rfl rfl rfl rfl (by kernel_rfl) Try.func7 (by kernel_rfl)
    (of_decide_eq_true (by kernel_rfl)) (by unfold Func.isWrapper; first | (rw [if_pos (by decide +kernel)]; kernel_rfl) | (rw [if_neg (by decide +kernel)]; exact ⟨rfl, rfl⟩))
    (fun os started H enc _ => lifted os started H enc)
theorem proved : Rows.RecBackSaid := over
#print axioms proved
end Go.Proofs.Ytapfidadgafpbaa.recBack
namespace Go.Proofs.Ytapfidadgafpbaa
/-- The row, under a short name, for the claim. -/
theorem recBack_holds : Rows.RecBackSaid := recBack.proved
end Go.Proofs.Ytapfidadgafpbaa
