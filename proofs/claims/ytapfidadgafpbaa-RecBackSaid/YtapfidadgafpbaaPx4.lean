-- Written by a program of this session (gp.py), which drives the print with some lines turned. Not trusted: Lean checks it.
import Derived.Test.YtapfidadgafpbaaPx0
import Derived.Test.YtapfidadgafpbaaPx2
namespace Go.Proofs.Ytapfidadgafpbaa.P
open Go.RowKit Go.Proofs.YtapfidadgafpbaaW.PrintWords Go.Proofs.YtapfidadgafpbaaW.PrintLast Go.Proofs.YtapfidadgafpbaaW.PrintMore
attribute [local go_sem] max2_int min2_int max_two min_two max_three min_three max_four min_four emod_u8 emod_u16 emod_u32
set_option linter.unusedVariables false
set_option linter.unusedSimpArgs false

/-! ### bailiwickref01_Take: function 40 -/
mutual
def bailiwickref01_Take.j0 : Nat → ByteArray → Int → Bool → Option (Int × ByteArray × Int)
  | 0, _, _, _ => none
  | k + 1, x0, x1, x14 => if x14 = true then (some (0, (⟨#[]⟩ : ByteArray), 1)) else (if (x0.size : Int) < x1 then (some (0, (⟨#[]⟩ : ByteArray), 2)) else (bailiwickref01_Take.l0 k x0 x1 0 0))
def bailiwickref01_Take.l0 : Nat → ByteArray → Int → Int → Int → Option (Int × ByteArray × Int)
  | 0, _, _, _, _ => none
  | k + 1, x0, x1, x7, x8 => if x8 < x1 then (if 0 ≤ x8 then (if x8 < (x0.size : Int) then (bailiwickref01_Take.l0 k x0 x1 (Go.bits .or .u64 (IntKind.u64.wrap (x7 * 256)) (IntKind.u64.wrap (bt x0 x8))) (wrap64 (x8 + 1))) else (none)) else (none)) else (if 0 ≤ x1 then (if x1 ≤ (x0.size : Int) then (some (x7, x0.extract (x1 : Int).toNat x0.size, 0)) else (none)) else (none))
end
def bailiwickref01_Take.f (k : Nat) (a0 : ByteArray) (a1 : Int) : Option (Int × ByteArray × Int) := if a1 < 1 then (bailiwickref01_Take.j0 k a0 a1 true) else (bailiwickref01_Take.j0 k a0 a1 (decide (a1 > 8)))
theorem bailiwickref01_Take.mono_l : ∀ k, (∀ y0 y1 y2, LeO (bailiwickref01_Take.j0 k y0 y1 y2) (bailiwickref01_Take.j0 (k + 1) y0 y1 y2)) ∧ (∀ y0 y1 y2 y3, LeO (bailiwickref01_Take.l0 k y0 y1 y2 y3) (bailiwickref01_Take.l0 (k + 1) y0 y1 y2 y3))
  | 0 => ⟨fun _ _ _ r h => by simp [bailiwickref01_Take.j0] at h, fun _ _ _ _ r h => by simp [bailiwickref01_Take.l0] at h⟩
  | k + 1 => by
    obtain ⟨ih0, ih1⟩ := bailiwickref01_Take.mono_l k
    refine ⟨?_, ?_⟩
    · intro y0 y1 y2
      unfold bailiwickref01_Take.j0
      repeat' first
      | (with_reducible exact ih0 _ _ _)
      | (with_reducible exact ih1 _ _ _ _)
      | (with_reducible exact LeO.refl _)
      | (with_reducible exact LeO.none _)
      | (with_reducible refine LeO.ite ?_ ?_)
      | (with_reducible refine LeO.bind ?_ (fun _ => ?_))
      | exact ih0 _ _ _
      | exact ih1 _ _ _ _
      | exact LeO.none _
      | refine LeO.ite ?_ ?_
      | refine LeO.bind ?_ (fun _ => ?_)
    · intro y0 y1 y2 y3
      unfold bailiwickref01_Take.l0
      repeat' first
      | (with_reducible exact ih0 _ _ _)
      | (with_reducible exact ih1 _ _ _ _)
      | (with_reducible exact LeO.refl _)
      | (with_reducible exact LeO.none _)
      | (with_reducible refine LeO.ite ?_ ?_)
      | (with_reducible refine LeO.bind ?_ (fun _ => ?_))
      | exact ih0 _ _ _
      | exact ih1 _ _ _ _
      | exact LeO.none _
      | refine LeO.ite ?_ ?_
      | refine LeO.bind ?_ (fun _ => ?_)
theorem bailiwickref01_Take.mono : ∀ a0 a1 k, LeO (bailiwickref01_Take.f k a0 a1) (bailiwickref01_Take.f (k + 1) a0 a1) := by
  intro a0 a1 k
  obtain ⟨ih0, ih1⟩ := bailiwickref01_Take.mono_l k
  unfold bailiwickref01_Take.f
  repeat' first
      | (with_reducible exact ih0 _ _ _)
      | (with_reducible exact ih1 _ _ _ _)
      | (with_reducible exact LeO.refl _)
      | (with_reducible exact LeO.none _)
      | (with_reducible refine LeO.ite ?_ ?_)
      | (with_reducible refine LeO.bind ?_ (fun _ => ?_))
      | exact ih0 _ _ _
      | exact ih1 _ _ _ _
      | exact LeO.none _
      | refine LeO.ite ?_ ?_
      | refine LeO.bind ?_ (fun _ => ?_)
/-! ### bailiwickref14_take: function 41 -/
def bailiwickref14_take.f (k : Nat) (a0 : ByteArray) (a1 : Int) (a2 : Int) : Option (Int) := if 0 ≤ a1 then (if a1 ≤ (a0.size : Int) then ((bailiwickref01_Take.f k (a0.extract (a1 : Int).toNat a0.size) a2).bind fun bt154 => (some (wrap64 (bt154.1)))) else (none)) else (none)
theorem bailiwickref14_take.mono : ∀ a0 a1 a2 k, LeO (bailiwickref14_take.f k a0 a1 a2) (bailiwickref14_take.f (k + 1) a0 a1 a2) := by
  intro a0 a1 a2 k
  unfold bailiwickref14_take.f
  repeat' first
      | (with_reducible exact bailiwickref01_Take.mono _ _ _)
      | (with_reducible exact LeO.refl _)
      | (with_reducible exact LeO.none _)
      | (with_reducible refine LeO.ite ?_ ?_)
      | (with_reducible refine LeO.bind ?_ (fun _ => ?_))
      | exact bailiwickref01_Take.mono _ _ _
      | exact LeO.none _
      | refine LeO.ite ?_ ?_
      | refine LeO.bind ?_ (fun _ => ?_)
/-! ### bailiwickref14_TakeSlot: function 17 -/
def bailiwickref14_TakeSlot.f (k : Nat) (a0 : Int) (a1 : ByteArray) : Option (Int × Int × Int × Int × Bool) := if (a1.size : Int) = 12 then (if 4 ≤ (a1.size : Int) then ((bailiwickref01_Take.f k (a1.extract 4 a1.size) 8).bind fun bt158 => ((bailiwickref14_take.f k a1 0 3).bind fun t161 => ((bailiwickref14_take.f k a1 3 1).bind fun t162 => ((bailiwickref14_SlotRight.f a0 t161 t162 bt158.1).bind fun t164 => (if t164 = true then (some (a0, t161, t162, bt158.1, true)) else (some (0, 0, 0, 0, false))))))) else (none)) else (some (0, 0, 0, 0, false))
theorem bailiwickref14_TakeSlot.mono : ∀ a0 a1 k, LeO (bailiwickref14_TakeSlot.f k a0 a1) (bailiwickref14_TakeSlot.f (k + 1) a0 a1) := by
  intro a0 a1 k
  unfold bailiwickref14_TakeSlot.f
  repeat' first
      | (with_reducible exact bailiwickref01_Take.mono _ _ _)
      | (with_reducible exact bailiwickref14_take.mono _ _ _ _)
      | (with_reducible exact LeO.refl _)
      | (with_reducible exact LeO.none _)
      | (with_reducible refine LeO.ite ?_ ?_)
      | (with_reducible refine LeO.bind ?_ (fun _ => ?_))
      | exact bailiwickref01_Take.mono _ _ _
      | exact bailiwickref14_take.mono _ _ _ _
      | exact LeO.none _
      | refine LeO.ite ?_ ?_
      | refine LeO.bind ?_ (fun _ => ?_)
-- NOT PRINTED: function 4 (bailiwicklaw14_RecSlots)

/-! ### bailiwickref05_mask: function 59 -/
def bailiwickref05_mask.f (a0 : Int) : Option (Bool) := if a0 ≥ 0 then (some (decide (a0 < 65536))) else (some false)
/-! ### bailiwickref05_Sub: function 43 -/
def bailiwickref05_Sub.f (a0 : Int) (a1 : Int) : Option (Bool) := (bailiwickref05_mask.f a0).bind fun t166 => (if t166 = true then ((bailiwickref05_mask.f a1).bind fun t167 => (if t167 = true then (some ((Go.bits .and .i64 a0 a1) == a0)) else (some false))) else (some false))
/-! ### bailiwickref14_CapRight: function 23 -/
def bailiwickref14_CapRight.f (a0_0 : Int) (a0_1 : Int) (a0_2 : Int) (a0_3 : Int) (a0_4 : Int) (a0_5 : Int) (a0_6 : Int) (a0_7 : Int) (a0_8 : Int) (a0_9 : Bool) : Option (Bool) := (bailiwickref14_in.f a0_0 1 16777215).bind fun t169 => (if t169 = true then ((bailiwickref14_in.f a0_1 0 16777215).bind fun t170 => (if t170 = true then (if ((a0_1 == 0) == (a0_6 == 1)) = true then ((bailiwickref14_in.f a0_2 1 16777215).bind fun t171 => (if t171 = true then ((bailiwickref14_in.f a0_3 1 16777215).bind fun t172 => (if t172 = true then ((bailiwickref05_Sub.f a0_4 a0_4).bind fun t173 => (if t173 = true then ((bailiwickref14_in.f a0_5 0 4294967295).bind fun t174 => (if t174 = true then ((bailiwickref14_in.f a0_6 1 8).bind fun t175 => (if t175 = true then ((bailiwickref14_in.f a0_7 0 268435455).bind fun t176 => (if t176 = true then ((bailiwickref14_in.f a0_8 0 16777215).bind fun t177 => (if t177 = true then (some (a0_1 != a0_0)) else (some false))) else (some false))) else (some false))) else (some false))) else (some false))) else (some false))) else (some false))) else (some false)) else (some false))) else (some false))
end Go.Proofs.Ytapfidadgafpbaa.P
