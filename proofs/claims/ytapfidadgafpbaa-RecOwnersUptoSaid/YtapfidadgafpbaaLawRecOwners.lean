/- The law where the arguments hold at most 1048576 values and letters. -/
-- Written by a program of this session (gp.py): the row of a law. Not trusted: Lean checks it.
import Derived.Test.YtapfidadgafpbaaRows
import Derived.Test.YtapfidadgafpbaaHandRecOwners
import Derived.Test.YtapfidadgafpbaaAgg
import Derived.WalkKit
import Derived.ProofKit
import Derived.OpenShut
import Derived.ShutString
import Derived.ChangeOld
import Derived.Below
import Derived.SizedLaws
import Derived.Deep.DeepHandedRow
import Derived.Lay
namespace Go.Proofs.Ytapfidadgafpbaa.recOwners
open Go.ChangeShapes Go.WideShapes Go.ChangeAt Go.RowKit Go.Proofs.Ytapfidadgafpbaa.Agg
open Go.Joins (field_of_Trod)
open Go.ChangeMaps (open_string shut_string)
set_option linter.unusedVariables false
theorem own : ownKnob Try.prog.godebug = none := by kernel_rfl
theorem cells34 : Try.prog.cellsOf 34 = 4 := by kernel_rfl
noncomputable def w0 (os : Os) : World := World.laidAll Try.prog os Rows.recOwnersUptoRow.laid
theorem met (os : Os) : laidMet Try.prog Rows.recOwnersUptoRow.laid ((w0 os).forCall (fun _ _ => 0) ⟨#[], #[.agg #[.int .i64 0, .string ByteArray.empty, .int .i64 0, .int .i64 0], .int .i64 0, .string ByteArray.empty], []⟩).memory := laidMet_laidAll _ (by kernel_rfl) (by kernel_rfl)
theorem reads (os : Os) {H : Type} (enc : TypeId × Value → H) : ∃ places, DataW.whole enc Try.prog ((w0 os).forCall (fun _ _ => 0) ⟨#[], #[.agg #[.int .i64 0, .string ByteArray.empty, .int .i64 0, .int .i64 0], .int .i64 0, .string ByteArray.empty], []⟩).memory Try.f6.params.toList Rows.recOwnersSpec.vars false (#[.agg #[.int .i64 0, .string ByteArray.empty, .int .i64 0, .int .i64 0], .int .i64 0, .string ByteArray.empty] : Array Value).toList 8 = some ([.agg [.lit (.int .i64 0), .lit (.string []), .lit (.int .i64 0), .lit (.int .i64 0)], .lit (.int .i64 0), .lit (.string [])], [], places) := ⟨[], by kernel_rfl⟩
set_option maxRecDepth 100000 in
theorem lifted (os : Os) (started : os.Started) (H : Type) (enc : TypeId × Value → H) (F : Stop.Interp) :
    ReturnsInHanded {} Try.checked os 6 .any ((Rows.OpenSpec.upto Rows.recOwnersSpec).preRow enc Try.prog Try.f6 Rows.recOwnersUptoRow.domain false Rows.recOwnersUptoRow.laid) (((Rows.OpenSpec.upto Rows.recOwnersSpec).at F).post enc Try.prog Try.f6 false true false false) := by
  obtain ⟨places, hx⟩ := reads os enc
  refine returnsInHanded_of_row (C := Try.checked) (s := (Rows.OpenSpec.upto Rows.recOwnersSpec)) own started (by kernel_rfl) Try.func6
    (witness_row_at (enc := enc) (C := Try.checked) false (w0 os) #[.agg #[.int .i64 0, .string ByteArray.empty, .int .i64 0, .int .i64 0], .int .i64 0, .string ByteArray.empty] (World.laidAll_os _ _ _) (by kernel_rfl) (by kernel_rfl) (by kernel_rfl)
      (OpenSpec.preRow_of_cond 8 hx (by kernel_rfl) (fun k hk => by cases hk; kernel_rfl) (by kernel_rfl) (met os))) ?_
  intro W base args ds gs before hval0 hW hcnd hk hsz0 hL _ _
  have hsz : (DataW.weightsEach Try.prog (Try.f6.params.toList ++ Rows.recOwnersSpec.plain.varTypes Try.prog) (ds ++ gs)).all (· ≤ reachBytes) = true := hsz0
  have hval : ∀ (j : Nat) t v, Try.f6.params[j]? = some t → args[j]? = some v → Value.okWide Try.prog W .any base t v := hval0
  have hW' := hW
  obtain ⟨p, q, hA0, hV, rfl, hfz, hnd⟩ := hW
  have hA : DataW.TrodAll enc Try.prog W 0 (fun _ => true) true Try.f6.params.toList args.toList ds p := hA0
  rw [Try.params6] at hA hval hsz
  obtain ⟨v0, vs0, d0, ds0, p0, q0, hargs, rfl, rfl, h0, r0⟩ := trodAll_cons hA
  obtain ⟨v1, vs1, d1, ds1, p1, q1, rfl, rfl, rfl, h1, r1⟩ := trodAll_cons r0
  obtain ⟨v2, vs2, d2, ds2, p2, q2, rfl, rfl, rfl, h2, r2⟩ := trodAll_cons r1
  obtain ⟨rfl, rfl, rfl⟩ := trodAll_nil r2
  obtain rfl : args = #[v0, v1, v2] := by cases args; simp_all
  obtain ⟨rfl, rfl⟩ := trodVars_none hV
  obtain ⟨c0_0, c0_1, c0_2, c0_3, y0_0, y0_1, y0_2, y0_3, m0, rfl, rfl, rfl, hy0_0, hy0_1, hy0_2, hy0_3⟩ := open_agg4 Try.underlying34 (by kernel_rfl) cells34 (hval 0 34 v0 rfl rfl) h0
  obtain ⟨a0_0, e0_0, rfl, w0_0⟩ := DataW.trod_int Try.underlying3 hy0_0
  obtain ⟨a0_1, e0_1, rfl, y0_1⟩ := DataW.trod_string Try.underlying9 hy0_1
  obtain ⟨a0_2, e0_2, rfl, w0_2⟩ := DataW.trod_int Try.underlying3 hy0_2
  obtain ⟨a0_3, e0_3, rfl, w0_3⟩ := DataW.trod_int Try.underlying3 hy0_3
  simp at e0_0 e0_1 e0_2 e0_3
  subst e0_0 e0_1 e0_2 e0_3
  have w0_1 : a0_1.size ≤ 140737488351232 := by
    have z := List.all_eq_true.1 hsz a0_1.data.toList.length (DataW.weights_mem_each (j := 0) (t := 34) rfl rfl _ (by simp [DataW.weights, DataW.weightsEach, Try.underlying34]))
    rw [Array.length_toList] at z
    have z2 := of_decide_eq_true z
    unfold reachBytes at z2
    exact z2
  obtain ⟨a1, rfl, rfl, rfl, w1⟩ := open_int Try.underlying3 (hval 1 3 v1 rfl rfl) h1
  obtain ⟨a2, rfl, rfl, rfl, y2⟩ := open_string Try.underlying9 (hval 2 9 v2 rfl rfl) h2
  have w2 : a2.size ≤ 140737488351232 := by
    have z := sized_string hsz (j := 2) (t := 9) rfl rfl
    rw [Array.length_toList] at z
    exact z
  have hb := of_decide_eq_true (hk _ rfl)
  simp only [List.append_nil, Rows.uptoBulkAll, Rows.uptoBulk] at hb
  have u_a0_1 : a0_1.size ≤ 1048576 := by
    have e_ : a0_1.size = a0_1.data.toList.length := by rw [Array.length_toList]; rfl
    omega
  have u_a2 : a2.size ≤ 1048576 := by
    have e_ : a2.size = a2.data.toList.length := by rw [Array.length_toList]; rfl
    omega
  clear hA0 hval0 hsz0 hsz
  refine (Pure.RecOwners_upto a0_0 a0_1 a0_2 a0_3 a1 a2 W w0_0 u_a0_1 w0_2 w0_3 w1 u_a2).mono fun e W' ⟨he, bel⟩ => ?_
  subst he
  exact ⟨_, rfl, _, _, _, [], _, [], hW', trodAll_mk1 (shut_bool Try.underlying4 _), (trodAll_cons_mk (shut_agg4 (y0 := (.lit (.int .i64 a0_0), [])) (y1 := (.lit (.string a0_1.data.toList), [])) (y2 := (.lit (.int .i64 a0_2), [])) (y3 := (.lit (.int .i64 a0_3), [])) Try.underlying34 (by kernel_rfl) cells34 (field_of_Trod (shut_int Try.underlying3 w0_0) rfl) (field_of_Trod (shut_string Try.underlying9 y0_1) rfl) (field_of_Trod (shut_int Try.underlying3 w0_2) rfl) (field_of_Trod (shut_int Try.underlying3 w0_3) rfl)) (trodAll_cons_mk (shut_int Try.underlying3 w1) (trodAll_cons_mk (shut_string Try.underlying9 y2) trodAll_mk0))), rfl, bel.frame _, fun h => by cases h⟩
theorem said : Rows.RecOwnersUptoSaid :=
  OpenClaim.holds_of_cond 6 Try.f6 rfl rfl rfl rfl rfl rfl rfl ⟨rfl, rfl, rfl, rfl, rfl⟩ rfl rfl rfl rfl rfl (by kernel_rfl) Try.func6 (by kernel_rfl)
    (of_decide_eq_true (by kernel_rfl)) (by unfold Func.isWrapper; first | (rw [if_pos (by decide +kernel)]; kernel_rfl) | (rw [if_neg (by decide +kernel)]; exact ⟨rfl, rfl⟩))
    (fun os started H enc _ F => by rw [OpenClaim.pre_eq_preRow]; exact lifted os started H enc F)
theorem proved : Rows.RecOwnersUptoSaid := said
#print axioms proved
end Go.Proofs.Ytapfidadgafpbaa.recOwners
namespace Go.Proofs.Ytapfidadgafpbaa
/-- The row, under a short name, for the claim. -/
theorem recOwners_upto : Rows.RecOwnersUptoSaid := recOwners.proved
end Go.Proofs.Ytapfidadgafpbaa
