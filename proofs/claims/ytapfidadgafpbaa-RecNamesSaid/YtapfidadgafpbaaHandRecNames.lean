/-
  The plain law on names, and the printed walk at it.
-/
import Derived.Test.YtapfidadgafpbaaB6
import Derived.Test.YtapfidadgafpbaaC0
import Derived.Test.YtapfidadgafpbaaNx1
import Derived.OpenShut
namespace Go.Proofs.Ytapfidadgafpbaa.Pure
set_option linter.unusedVariables false
set_option linter.unusedSimpArgs false
open Go.RowKit Go.Proofs.Ytapfidadgafpbaa.G Go.Proofs.Ytapfidadgafpbaa.R Go.Proofs.YtapfidadgafpbaaW.PrintWords Go.Proofs.YtapfidadgafpbaaW.PrintLast Go.Proofs.YtapfidadgafpbaaW.PrintMore
theorem own_name (nm : ByteArray) : ownOk 1 nm 3 0 ↔ nameOk nm := by
  unfold ownOk
  constructor
  · intro h; exact h.1
  · intro h; exact ⟨h, by decide, by decide, by decide, by decide, by decide, by decide⟩
theorem fold_size (nm : ByteArray) : (foldB nm).size ≤ 32 := by
  cases h : rightB nm
  · rw [fold_wrong nm h]; decide
  · rw [fold_low nm h, lowS_size]; exact right_size nm h
theorem name_fold (nm : ByteArray) : nameOk (foldB nm) ↔ rightB nm = true := by
  constructor
  · intro h
    cases hr : rightB nm
    · rw [fold_wrong nm hr] at h
      exact absurd h.1 (by rw [right_empty]; decide)
    · rfl
  · intro h; exact right_fold nm h
theorem put_own (nm : ByteArray) (hz : nm.size ≤ 140737488355328) : ∃ t, xPutOwner.f 1 nm 3 0 = some (t, if nameOk nm then 0 else 1) := by
  rw [xPutOwner.f, owrite_eq 1 nm 3 0 hz]
  by_cases h : nameOk nm
  · rw [if_pos ((own_name nm).2 h), if_pos h]; exact ⟨_, rfl⟩
  · rw [if_neg (fun g => h ((own_name nm).1 g)), if_neg h]; exact ⟨_, rfl⟩
theorem names_true (nm : ByteArray) (a c d e f g h i : Int) (j : Bool) (x0 x1 x2 x3 : Int) (b : Int) (g0 : Int) (hz : nm.size ≤ 140737488355328) : N.bailiwicklaw14_RecNames.f 41 nm a b c d e f g0 h i j x0 x1 x2 x3 = some true := by
  unfold N.bailiwicklaw14_RecNames.f
  obtain ⟨t1, e1⟩ := put_own nm hz
  obtain ⟨t2, e2⟩ := put_own (foldB nm) (by have := fold_size nm; omega)
  have e3 : Fold.f nm = some (foldB nm, rightB nm) := by rw [Fold.f, if_pos hz]
  have e4 : P.rec_CapRight.f 41 a 0 c d e f 1 h i j = some (capOk a 0 c d e f 1 h i) := by rw [P.rec_CapRight.f, cap_eq 40]; rfl
  have e5 : P.rec_CapRight.f 41 a 0 c d e f 2 h i j = some false := by
    rw [P.rec_CapRight.f, cap_eq 40, show capOk a 0 c d e f 2 h i = false from decide_eq_false (fun hh => absurd (hh.2.2.2.2.2.2.2.2.2.2.2.2.2.2.2.2.2.2.2.2 rfl) (by decide))]; rfl
  have e6 : P.rec_SlotRight.f x0 x1 16 x3 = some (slotOk x0 x1 16) := by rw [P.rec_SlotRight.f, right_eq]; rfl
  have hs : slotOk x0 x1 16 = true → x1 = 0 := by
    intro hh
    have := of_decide_eq_true hh
    omega
  have hc : capOk a 0 c d e f 1 h i = true → a ≥ 1 ∧ c ≥ 1 := by
    intro hh
    have := of_decide_eq_true hh
    omega
  simp only [ex_eq, e1, e2, e3, e4, e5, e6, Option.bind_some, toList_beq]
  have q1 : ((if nameOk (foldB nm) then (0 : Int) else 1) == 0) = rightB nm := by
    cases hr : rightB nm
    · rw [if_neg (fun g => by rw [(name_fold nm).1 g] at hr; cases hr)]; rfl
    · rw [if_pos ((name_fold nm).2 hr)]; rfl
  have q2 : rightB nm = true → ((if nameOk nm then (0 : Int) else 1) == 0) = decide (foldB nm = nm) := by
    intro hr
    by_cases hf : foldB nm = nm
    · rw [if_pos ⟨hr, hf⟩, decide_eq_true hf]; rfl
    · rw [if_neg (fun g => hf g.2), decide_eq_false hf]; rfl
  have q3 : rightB nm = false → ((if nameOk nm then (0 : Int) else 1) == 0) = false := by
    intro hr
    rw [if_neg (fun g => by rw [g.1] at hr; cases hr)]; rfl
  have tail : (if slotOk x0 x1 16 = true then (if x1 = 0 then (if capOk a 0 c d e f 1 h i = true then (if a ≥ 1 then some (decide (c ≥ 1)) else some false) else some true) else some false) else (if capOk a 0 c d e f 1 h i = true then (if a ≥ 1 then some (decide (c ≥ 1)) else some false) else some true)) = some true := by
    have t0 : (if capOk a 0 c d e f 1 h i = true then (if a ≥ 1 then some (decide (c ≥ 1)) else some false) else some true) = some true := by
      by_cases hk : capOk a 0 c d e f 1 h i = true
      · have := hc hk
        rw [if_pos hk, if_pos this.1, decide_eq_true this.2]
      · rw [if_neg hk]
    by_cases hk : slotOk x0 x1 16 = true
    · rw [if_pos hk, if_pos (hs hk), t0]
    · rw [if_neg hk, t0]
  cases hr : rightB nm
  · rw [hr] at q1
    simp only [q1, q3 hr, hr, tail]
    simp [tail]
  · rw [hr] at q1
    simp only [q1, q2 hr, hr, tail]
    simp [tail]
theorem RecNames_walk (nm : ByteArray) (a b c d e f g h i : Int) (j : Bool) (x0 x1 x2 x3 : Int) (w : World) (w0 : nm.size ≤ 140737488351232) (w1 : (Lit.int .i64 a).wf = true) (w2 : (Lit.int .i64 b).wf = true) (w3 : (Lit.int .i64 c).wf = true) (w4 : (Lit.int .i64 d).wf = true) (w5 : (Lit.int .i64 e).wf = true) (w6 : (Lit.int .i64 f).wf = true) (w7 : (Lit.int .i64 g).wf = true) (w8 : (Lit.int .i64 h).wf = true) (w9 : (Lit.int .i64 i).wf = true) (w10 : (Lit.int .i64 x0).wf = true) (w11 : (Lit.int .i64 x1).wf = true) (w12 : (Lit.int .i64 x2).wf = true) (w13 : (Lit.int .u64 x3).wf = true) :
    Calls Try.prog 3 #[.string nm, capV a b c d e f g h i j, slotV x0 x1 x2 x3] w fun e w' => e = .returned (.bool true) ∧ Below w.heap.size w w' :=
  N.bailiwicklaw14_RecNames.calls 41 nm a b c d e f g h i j x0 x1 x2 x3 true w (names_true nm a c d e f g h i j x0 x1 x2 x3 b g (by omega)) rfl
end Go.Proofs.Ytapfidadgafpbaa.Pure
