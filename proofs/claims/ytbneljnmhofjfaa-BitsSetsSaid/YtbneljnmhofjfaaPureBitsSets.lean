/- Any text has any number, with it and without it, and the least one that is free, as the reference says. No condition. -/
import Derived.Test.YtbneljnmhofjfaaB1
import Derived.OpenShut
namespace Go.Proofs.Ytbneljnmhofjfaa.Pure
set_option linter.unusedVariables false
set_option linter.unusedSimpArgs false
open Go.RowKit Go.Proofs.Ytbneljnmhofjfaa.G Go.Proofs.YtbneljnmhofjfaaW.PrintWords Go.Proofs.YtbneljnmhofjfaaW.PrintLast Go.Proofs.YtbneljnmhofjfaaW.PrintMore

theorem with_same (b : ByteArray) (i : Int) (on : Bool) (hs : b.size ≤ 100000) (hi : (Lit.int .i64 i).wf = true) : ∃ r, bits_With.f b i on = some r ∧ ref_With.f b i on = some r := by
  replace hi := bounds_i64 hi
  by_cases h : 0 ≤ i
  · obtain ⟨n, rfl⟩ := Int.eq_ofNat_of_zero_le h
    exact ⟨_, with_put b n on (by omega) (by omega), refwith_put b n on (by omega) (by omega)⟩
  · exact ⟨_, with_neg b i on (by omega) (by omega) (by omega), refwith_neg b i on (by omega) (by omega) (by omega)⟩
theorem BitsSets : bailiwicklaw08_BitsSets.Pure := by
  intro a0 a1 a2 a3 hs h1 h3
  refine ⟨2 * (8 * 2000) + 3, ?_⟩
  unfold bailiwicklaw08_BitsSets.f
  have hm : 0 ≤ mn (a0.size : Int) 2000 ∧ mn (a0.size : Int) 2000 ≤ (a0.size : Int) ∧ mn (a0.size : Int) 2000 ≤ 2000 := by rw [mn_eq]; omega
  have hm3 : -9223372036854775808 ≤ mn a3 3000 ∧ mn a3 3000 ≤ 9223372036854775807 := by
    replace h3 := bounds_i64 h3
    rw [mn_eq]; omega
  rw [ex_eq, Option.bind_some, if_pos rfl, if_pos hm.1, if_pos hm.2.1]
  generalize mn a3 3000 = m3 at *
  generalize hb : a0.extract 0 ((mn (a0.size : Int) 2000) : Int).toNat = b
  have hz : b.size ≤ 2000 := by rw [← hb, ByteArray.size_extract]; omega
  obtain ⟨o, ho, e1⟩ := first_eq b a3 (by omega)
  have e2 : P.bailiwickref08_First.f (2 * (8 * 2000) + 3) b a3 = some (firstOf o a3) :=
    rfirst_from b a3 (by omega) o ho (8 * b.size) 0 _ (by omega) (by omega) (fun j hj => by omega) (by omega) (by omega)
  obtain ⟨r, e5, e6⟩ := with_same b a1 a2 (by omega) h1
  replace h1 := bounds_i64 h1
  have e3 := has_eq b a1 (by omega) (by omega)
  have e4 := rhas_eq b a1 (by omega) (by omega)
  have e7 : bits_New.f m3 = some ⟨(List.replicate (newLen m3) 0).toArray⟩ := by unfold bits_New.f; rw [if_pos hm3]
  have e8 : ref_New.f m3 = some ⟨(List.replicate (newLen m3) 0).toArray⟩ := e7
  rw [e1, Option.bind_some, e2, Option.bind_some, e3, Option.bind_some, e4, Option.bind_some, if_pos (by simp), e5, Option.bind_some, e6, Option.bind_some, if_pos rfl, if_pos rfl, if_pos (by simp), e7, Option.bind_some, e8, Option.bind_some]
  simp
end Go.Proofs.Ytbneljnmhofjfaa.Pure
