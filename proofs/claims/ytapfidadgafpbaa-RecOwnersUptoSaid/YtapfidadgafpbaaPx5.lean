-- Written by a program of this session (gp.py), which drives the print with some lines turned. Not trusted: Lean checks it.
import Derived.Test.YtapfidadgafpbaaPx0
import Derived.Test.YtapfidadgafpbaaPx3
import Derived.Test.YtapfidadgafpbaaPx4
namespace Go.Proofs.Ytapfidadgafpbaa.P
open Go.RowKit Go.Proofs.YtapfidadgafpbaaW.PrintWords Go.Proofs.YtapfidadgafpbaaW.PrintLast Go.Proofs.YtapfidadgafpbaaW.PrintMore
attribute [local go_sem] max2_int min2_int max_two min_two max_three min_three max_four min_four emod_u8 emod_u16 emod_u32
set_option linter.unusedVariables false
set_option linter.unusedSimpArgs false

/-! ### bailiwickref14_PutCap: function 20 -/
def bailiwickref14_PutCap.j0 : Nat → ByteArray → Int → Int → Int → Int → Int → Int → Int → Int → Int → Bool → Option (ByteArray × Bool)
  | 0, _, _, _, _, _, _, _, _, _, _, _ => none
  | k + 1, x5, x179000, x179001, x179002, x179003, x179004, x179005, x179006, x179007, x179008, x179009 => (bailiwickref14_put.f k x179001 3).bind fun t180 => ((bailiwickref14_put.f k x179002 3).bind fun t181 => (if t180.size + t181.size ≤ 9223372036854775807 then ((bailiwickref14_put.f k x179003 3).bind fun t182 => (if (t180 ++ t181).size + t182.size ≤ 9223372036854775807 then ((bailiwickref14_put.f k x179004 2).bind fun t183 => (if ((t180 ++ t181) ++ t182).size + t183.size ≤ 9223372036854775807 then ((bailiwickref14_put.f k x179005 4).bind fun t184 => (if (((t180 ++ t181) ++ t182) ++ t183).size + t184.size ≤ 9223372036854775807 then ((bailiwickref14_put.f k x179006 1).bind fun t185 => (if ((((t180 ++ t181) ++ t182) ++ t183) ++ t184).size + t185.size ≤ 9223372036854775807 then ((bailiwickref14_put.f k x179007 4).bind fun t186 => (if (((((t180 ++ t181) ++ t182) ++ t183) ++ t184) ++ t185).size + t186.size ≤ 9223372036854775807 then ((bailiwickref14_put.f k x179008 3).bind fun t187 => (if ((((((t180 ++ t181) ++ t182) ++ t183) ++ t184) ++ t185) ++ t186).size + t187.size ≤ 9223372036854775807 then (if (((((((t180 ++ t181) ++ t182) ++ t183) ++ t184) ++ t185) ++ t186) ++ t187).size + x5.size ≤ 9223372036854775807 then (some ((((((((t180 ++ t181) ++ t182) ++ t183) ++ t184) ++ t185) ++ t186) ++ t187) ++ x5, true)) else (none)) else (none))) else (none))) else (none))) else (none))) else (none))) else (none))) else (none)))
def bailiwickref14_PutCap.f (k : Nat) (a0_0 : Int) (a0_1 : Int) (a0_2 : Int) (a0_3 : Int) (a0_4 : Int) (a0_5 : Int) (a0_6 : Int) (a0_7 : Int) (a0_8 : Int) (a0_9 : Bool) : Option (ByteArray × Bool) := (bailiwickref14_CapRight.f a0_0 a0_1 a0_2 a0_3 a0_4 a0_5 a0_6 a0_7 a0_8 a0_9).bind fun t179 => (if t179 = true then (if a0_9 = true then (bailiwickref14_PutCap.j0 k (⟨#[1]⟩ : ByteArray) a0_0 a0_1 a0_2 a0_3 a0_4 a0_5 a0_6 a0_7 a0_8 a0_9) else (bailiwickref14_PutCap.j0 k (⟨#[0]⟩ : ByteArray) a0_0 a0_1 a0_2 a0_3 a0_4 a0_5 a0_6 a0_7 a0_8 a0_9)) else (some ((⟨#[]⟩ : ByteArray), false)))
theorem bailiwickref14_PutCap.mono_l : ∀ k, (∀ y0 y1 y2 y3 y4 y5 y6 y7 y8 y9 y10, LeO (bailiwickref14_PutCap.j0 k y0 y1 y2 y3 y4 y5 y6 y7 y8 y9 y10) (bailiwickref14_PutCap.j0 (k + 1) y0 y1 y2 y3 y4 y5 y6 y7 y8 y9 y10))
  | 0 => fun _ _ _ _ _ _ _ _ _ _ _ r h => by simp [bailiwickref14_PutCap.j0] at h
  | k + 1 => by
    have ih0 := bailiwickref14_PutCap.mono_l k
    · intro y0 y1 y2 y3 y4 y5 y6 y7 y8 y9 y10
      unfold bailiwickref14_PutCap.j0
      repeat' first
      | (with_reducible exact ih0 _ _ _ _ _ _ _ _ _ _ _)
      | (with_reducible exact bailiwickref14_put.mono _ _ _)
      | (with_reducible exact LeO.refl _)
      | (with_reducible exact LeO.none _)
      | (with_reducible refine LeO.ite ?_ ?_)
      | (with_reducible refine LeO.bind ?_ (fun _ => ?_))
      | exact ih0 _ _ _ _ _ _ _ _ _ _ _
      | exact bailiwickref14_put.mono _ _ _
      | exact LeO.none _
      | refine LeO.ite ?_ ?_
      | refine LeO.bind ?_ (fun _ => ?_)
theorem bailiwickref14_PutCap.mono : ∀ a0 a1 a2 a3 a4 a5 a6 a7 a8 a9 k, LeO (bailiwickref14_PutCap.f k a0 a1 a2 a3 a4 a5 a6 a7 a8 a9) (bailiwickref14_PutCap.f (k + 1) a0 a1 a2 a3 a4 a5 a6 a7 a8 a9) := by
  intro a0 a1 a2 a3 a4 a5 a6 a7 a8 a9 k
  have ih0 := bailiwickref14_PutCap.mono_l k
  unfold bailiwickref14_PutCap.f
  repeat' first
      | (with_reducible exact ih0 _ _ _ _ _ _ _ _ _ _ _)
      | (with_reducible exact bailiwickref14_put.mono _ _ _)
      | (with_reducible exact LeO.refl _)
      | (with_reducible exact LeO.none _)
      | (with_reducible refine LeO.ite ?_ ?_)
      | (with_reducible refine LeO.bind ?_ (fun _ => ?_))
      | exact ih0 _ _ _ _ _ _ _ _ _ _ _
      | exact bailiwickref14_put.mono _ _ _
      | exact LeO.none _
      | refine LeO.ite ?_ ?_
      | refine LeO.bind ?_ (fun _ => ?_)
-- NOT PRINTED: function 21 (rec_TakeCap)

end Go.Proofs.Ytapfidadgafpbaa.P
