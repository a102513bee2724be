-- Written by a program of this session (gp.py): the row of a law. Not trusted: Lean checks it.
import Derived.Test.YtapfidadgafpbaaRows
import Derived.Test.YtapfidadgafpbaaHandRecNames
import Derived.Test.YtapfidadgafpbaaAgg
import Derived.WalkKit
import Derived.ProofKit
import Derived.OpenShut
import Derived.ShutString
import Derived.ChangeOld
import Derived.Below
import Derived.SizedLaws
namespace Go.Proofs.Ytapfidadgafpbaa.recNames
open Go.ChangeShapes Go.WideShapes Go.ChangeAt Go.RowKit Go.Proofs.Ytapfidadgafpbaa.Agg
open Go.Joins (field_of_Trod)
open Go.ChangeMaps (open_string shut_string)
set_option linter.unusedVariables false
theorem own : ownKnob Try.prog.godebug = none := by kernel_rfl
theorem cells23 : Try.prog.cellsOf 23 = 10 := by kernel_rfl
theorem cells26 : Try.prog.cellsOf 26 = 4 := by kernel_rfl
set_option maxRecDepth 100000 in
theorem lifted (os : Os) (started : os.Started) (H : Type) (enc : TypeId × Value → H) :
    ReturnsInHanded {} Try.checked os 3 .any (Rows.recNamesSpec.pre6 enc Try.prog Try.f3 Rows.recNamesRow.domain false) (Rows.recNamesSpec.post enc Try.prog Try.f3 false true false false) := by
  refine returnsInHanded_of_change_sized (C := Try.checked) own started (by kernel_rfl) Try.func3
    (ChangeSpec.witness6 (enc := enc) (C := Try.checked) false ⟨#[], #[.string ByteArray.empty, .agg #[.int .i64 0, .int .i64 0, .int .i64 0, .int .i64 0, .int .i64 0, .int .i64 0, .int .i64 0, .int .i64 0, .int .i64 0, .bool false], .agg #[.int .i64 0, .int .i64 0, .int .i64 0, .int .u64 0]], []⟩ 8 (by kernel_rfl) (by kernel_rfl) (by kernel_rfl) (by kernel_rfl)) ?_
  intro W base args ds gs before hval0 hW hcnd hsz0 _
  have hsz : (DataW.weightsEach Try.prog (Try.f3.params.toList ++ Rows.recNamesSpec.plain.varTypes Try.prog) (ds ++ gs)).all (· ≤ reachBytes) = true := hsz0
  have hval : ∀ (j : Nat) t v, Try.f3.params[j]? = some t → args[j]? = some v → Value.okWide Try.prog W .any base t v := hval0
  have hW' := hW
  obtain ⟨p, q, hA0, hV, rfl, hfz, hnd⟩ := hW
  have hA : DataW.TrodAll enc Try.prog W 0 (fun _ => true) true Try.f3.params.toList args.toList ds p := hA0
  rw [Try.params3] at hA hval hsz
  obtain ⟨v0, vs0, d0, ds0, p0, q0, hargs, rfl, rfl, h0, r0⟩ := trodAll_cons hA
  obtain ⟨v1, vs1, d1, ds1, p1, q1, rfl, rfl, rfl, h1, r1⟩ := trodAll_cons r0
  obtain ⟨v2, vs2, d2, ds2, p2, q2, rfl, rfl, rfl, h2, r2⟩ := trodAll_cons r1
  obtain ⟨rfl, rfl, rfl⟩ := trodAll_nil r2
  obtain rfl : args = #[v0, v1, v2] := by cases args; simp_all
  obtain ⟨rfl, rfl⟩ := trodVars_none hV
  obtain ⟨a0, rfl, rfl, rfl, y0⟩ := open_string Try.underlying9 (hval 0 9 v0 rfl rfl) h0
  have w0 : a0.size ≤ 140737488351232 := by
    have z := sized_string hsz (j := 0) (t := 9) rfl rfl
    rw [Array.length_toList] at z
    exact z
  obtain ⟨c1_0, c1_1, c1_2, c1_3, c1_4, c1_5, c1_6, c1_7, c1_8, c1_9, y1_0, y1_1, y1_2, y1_3, y1_4, y1_5, y1_6, y1_7, y1_8, y1_9, m1, rfl, rfl, rfl, hy1_0, hy1_1, hy1_2, hy1_3, hy1_4, hy1_5, hy1_6, hy1_7, hy1_8, hy1_9⟩ := open_agg10 Try.underlying23 (by kernel_rfl) cells23 (hval 1 23 v1 rfl rfl) h1
  obtain ⟨a1_0, e1_0, rfl, w1_0⟩ := DataW.trod_int Try.underlying3 hy1_0
  obtain ⟨a1_1, e1_1, rfl, w1_1⟩ := DataW.trod_int Try.underlying3 hy1_1
  obtain ⟨a1_2, e1_2, rfl, w1_2⟩ := DataW.trod_int Try.underlying3 hy1_2
  obtain ⟨a1_3, e1_3, rfl, w1_3⟩ := DataW.trod_int Try.underlying3 hy1_3
  obtain ⟨a1_4, e1_4, rfl, w1_4⟩ := DataW.trod_int Try.underlying3 hy1_4
  obtain ⟨a1_5, e1_5, rfl, w1_5⟩ := DataW.trod_int Try.underlying3 hy1_5
  obtain ⟨a1_6, e1_6, rfl, w1_6⟩ := DataW.trod_int Try.underlying3 hy1_6
  obtain ⟨a1_7, e1_7, rfl, w1_7⟩ := DataW.trod_int Try.underlying3 hy1_7
  obtain ⟨a1_8, e1_8, rfl, w1_8⟩ := DataW.trod_int Try.underlying3 hy1_8
  obtain ⟨a1_9, e1_9, rfl⟩ := DataW.trod_bool Try.underlying4 hy1_9
  simp at e1_0 e1_1 e1_2 e1_3 e1_4 e1_5 e1_6 e1_7 e1_8 e1_9
  subst e1_0 e1_1 e1_2 e1_3 e1_4 e1_5 e1_6 e1_7 e1_8 e1_9
  obtain ⟨c2_0, c2_1, c2_2, c2_3, y2_0, y2_1, y2_2, y2_3, m2, rfl, rfl, rfl, hy2_0, hy2_1, hy2_2, hy2_3⟩ := open_agg4 Try.underlying26 (by kernel_rfl) cells26 (hval 2 26 v2 rfl rfl) h2
  obtain ⟨a2_0, e2_0, rfl, w2_0⟩ := DataW.trod_int Try.underlying3 hy2_0
  obtain ⟨a2_1, e2_1, rfl, w2_1⟩ := DataW.trod_int Try.underlying3 hy2_1
  obtain ⟨a2_2, e2_2, rfl, w2_2⟩ := DataW.trod_int Try.underlying3 hy2_2
  obtain ⟨a2_3, e2_3, rfl, w2_3⟩ := DataW.trod_int Try.underlying24 hy2_3
  simp at e2_0 e2_1 e2_2 e2_3
  subst e2_0 e2_1 e2_2 e2_3
  clear hA0 hval0 hsz0 hsz
  refine (Pure.RecNames_walk a0 a1_0 a1_1 a1_2 a1_3 a1_4 a1_5 a1_6 a1_7 a1_8 a1_9 a2_0 a2_1 a2_2 a2_3 W w0 w1_0 w1_1 w1_2 w1_3 w1_4 w1_5 w1_6 w1_7 w1_8 w2_0 w2_1 w2_2 w2_3).mono fun e W' ⟨he, bel⟩ => ?_
  subst he
  exact ⟨_, rfl, _, _, _, [], _, [], hW', trodAll_mk1 (shut_bool Try.underlying4 _), (trodAll_cons_mk (shut_string Try.underlying9 y0) (trodAll_cons_mk (shut_agg10 (y0 := (.lit (.int .i64 a1_0), [])) (y1 := (.lit (.int .i64 a1_1), [])) (y2 := (.lit (.int .i64 a1_2), [])) (y3 := (.lit (.int .i64 a1_3), [])) (y4 := (.lit (.int .i64 a1_4), [])) (y5 := (.lit (.int .i64 a1_5), [])) (y6 := (.lit (.int .i64 a1_6), [])) (y7 := (.lit (.int .i64 a1_7), [])) (y8 := (.lit (.int .i64 a1_8), [])) (y9 := (.lit (.bool a1_9), [])) Try.underlying23 (by kernel_rfl) cells23 (field_of_Trod (shut_int Try.underlying3 w1_0) rfl) (field_of_Trod (shut_int Try.underlying3 w1_1) rfl) (field_of_Trod (shut_int Try.underlying3 w1_2) rfl) (field_of_Trod (shut_int Try.underlying3 w1_3) rfl) (field_of_Trod (shut_int Try.underlying3 w1_4) rfl) (field_of_Trod (shut_int Try.underlying3 w1_5) rfl) (field_of_Trod (shut_int Try.underlying3 w1_6) rfl) (field_of_Trod (shut_int Try.underlying3 w1_7) rfl) (field_of_Trod (shut_int Try.underlying3 w1_8) rfl) (field_of_Trod (shut_bool Try.underlying4 _) rfl)) (trodAll_cons_mk (shut_agg4 (y0 := (.lit (.int .i64 a2_0), [])) (y1 := (.lit (.int .i64 a2_1), [])) (y2 := (.lit (.int .i64 a2_2), [])) (y3 := (.lit (.int .u64 a2_3), [])) Try.underlying26 (by kernel_rfl) cells26 (field_of_Trod (shut_int Try.underlying3 w2_0) rfl) (field_of_Trod (shut_int Try.underlying3 w2_1) rfl) (field_of_Trod (shut_int Try.underlying3 w2_2) rfl) (field_of_Trod (shut_int Try.underlying24 w2_3) rfl)) trodAll_mk0))), rfl, bel.frame _, fun h => by cases h⟩
theorem over : Rows.recNamesRow.holds Try.pinned (OpenSpec.ofChange Rows.recNamesSpec) :=
  OpenClaim.holds_of_wide 3 Try.f3 rfl rfl rfl rfl rfl rfl rfl ⟨rfl, rfl, rfl, rfl, rfl⟩ rfl rfl rfl rfl rfl (by kernel_rfl) Try.func3 (by kernel_rfl)
    (of_decide_eq_true (by kernel_rfl)) (by unfold Func.isWrapper; first | (rw [if_pos (by decide +kernel)]; kernel_rfl) | (rw [if_neg (by decide +kernel)]; exact ⟨rfl, rfl⟩))
    (fun os started H enc _ => lifted os started H enc)
theorem proved : Rows.RecNamesSaid := over
#print axioms proved
end Go.Proofs.Ytapfidadgafpbaa.recNames
namespace Go.Proofs.Ytapfidadgafpbaa
/-- The row, under a short name, for the claim. -/
theorem recNames_holds : Rows.RecNamesSaid := recNames.proved
end Go.Proofs.Ytapfidadgafpbaa
