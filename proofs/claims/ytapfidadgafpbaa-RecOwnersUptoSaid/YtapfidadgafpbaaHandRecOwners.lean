/-
  The plain law of principals, and the printed walk at it: of names and values of at most 1048576 bytes.
-/
import Derived.Test.YtapfidadgafpbaaD0
import Derived.Test.YtapfidadgafpbaaQx3
import Derived.OpenShut
namespace Go.Proofs.Ytapfidadgafpbaa.Pure
set_option linter.unusedVariables false
set_option linter.unusedSimpArgs false
open Go.RowKit Go.Proofs.Ytapfidadgafpbaa.G Go.Proofs.Ytapfidadgafpbaa.R Go.Proofs.YtapfidadgafpbaaW.PrintWords Go.Proofs.YtapfidadgafpbaaW.PrintLast Go.Proofs.YtapfidadgafpbaaW.PrintMore
theorem exQ : Q.bailiwicklaw14_examples.f = some true := by decide +kernel
theorem owners_true (i : Int) (nm : ByteArray) (l h id : Int) (s : ByteArray) (hz : nm.size ≤ 2000000) (hs : s.size ≤ 2000000) : Q.bailiwicklaw14_RecOwners.f 40 i nm l h id s = some true := by
  have w1 : xPutOwner.f i nm l h = if ownOk i nm l h then some (ownB l h nm, 0) else some (⟨#[]⟩, 1) := owrite_eq i nm l h (by omega)
  have w2 := rowrite_eq i nm l h hz
  have w3 : O.rec_OwnerRight.f i nm l h = some (decide (ownOk i nm l h)) := by rw [O.rec_OwnerRight.f, own_eq i nm l h (by omega)]; rfl
  have w4 := rown_eq i nm l h hz
  obtain ⟨x1, x2, x3, x4, x5, y1, y2, y3, y4, y5, e1, e2, hx⟩ : ∃ x1 x2 x3 x4 x5 y1 y2 y3 y4 y5, xTakeOwner.f id s = some (x1, x2, x3, x4, x5) ∧ Q.bailiwickref14_TakeOwner.f 40 id s = some (y1, y2, y3, y4, y5) ∧ (x1 = y1 ∧ x2 = y2 ∧ x3 = y3 ∧ x4 = y4 ∧ ((y5 = true ∧ x5 = 0) ∨ (y5 = false ∧ x5 = 2))) := by
    rcases otake id s hs with ⟨nm', l', h', e, hk, ho⟩ | e
    · have r := ro_back id nm' l' h' hk
      rw [ho] at r
      exact ⟨_, _, _, _, _, _, _, _, _, _, e, r, rfl, rfl, rfl, rfl, .inl ⟨rfl, rfl⟩⟩
    · rcases rotake id s hs with ⟨nm', l', h', r, hk, ho⟩ | r
      · have b := own_back id nm' l' h' hk
        rw [ho, e] at b
        cases b
      · exact ⟨_, _, _, _, _, _, _, _, _, _, e, r, rfl, rfl, rfl, rfl, .inr ⟨rfl, rfl⟩⟩
  obtain ⟨rfl, rfl, rfl, rfl, hx⟩ := hx
  have tail : (if (x1 == x1 && (x2.toList == x2.toList && (x3 == x3 && (x4 == x4)))) = true then (if y5 = true then (if x5 = 0 then (some true) else (some false)) else (some (x5 == 2))) else (some false)) = some true := by
    rw [if_pos (by simp)]
    rcases hx with ⟨rfl, rfl⟩ | ⟨rfl, rfl⟩ <;> rfl
  rw [Q.bailiwicklaw14_RecOwners.f, exQ, Option.bind_some, if_pos rfl, w1, w2, w3, w4, e1, e2]
  by_cases hk : ownOk i nm l h
  · simp only [if_pos hk, Option.bind_some, beq_self_eq_true, if_true]
    simpa using tail
  · simp only [if_neg hk, Option.bind_some, beq_self_eq_true, if_true]
    simpa using tail
theorem RecOwners_upto (i : Int) (nm : ByteArray) (l h id : Int) (s : ByteArray) (w : World) (w0 : (Lit.int .i64 i).wf = true) (w1 : nm.size ≤ 1048576) (w2 : (Lit.int .i64 l).wf = true) (w3 : (Lit.int .i64 h).wf = true) (w4 : (Lit.int .i64 id).wf = true) (w5 : s.size ≤ 1048576) :
    Calls Try.prog 6 #[ownV i nm l h, .int .i64 id, .string s] w fun e w' => e = .returned (.bool true) ∧ Below w.heap.size w w' :=
  Q.bailiwicklaw14_RecOwners.calls 40 i nm l h id s true w (owners_true i nm l h id s (by omega) (by omega)) rfl
end Go.Proofs.Ytapfidadgafpbaa.Pure
