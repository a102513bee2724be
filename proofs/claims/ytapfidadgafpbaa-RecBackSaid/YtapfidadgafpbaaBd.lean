-- Written by a program of this session (gp.py), which drives the print with some lines turned. Not trusted: Lean checks it.
import Derived.Test.YtapfidadgafpbaaBx0
import Derived.Test.YtapfidadgafpbaaBx1
import Derived.Test.YtapfidadgafpbaaBx2
import Derived.Test.YtapfidadgafpbaaBx3
namespace Go.Proofs.Ytapfidadgafpbaa.B
open Go.RowKit Go.Proofs.YtapfidadgafpbaaW.PrintWords Go.Proofs.YtapfidadgafpbaaW.PrintLast Go.Proofs.YtapfidadgafpbaaW.PrintMore
attribute [local go_sem] max2_int min2_int max_two min_two max_three min_three max_four min_four P.emod_u8 P.emod_u16 P.emod_u32
set_option linter.unusedVariables false
set_option linter.unusedSimpArgs false

attribute [local go_sem high] eqA23 eqA26 eqA34
/-! ### bailiwicklaw14_RecBack: function 7 -/
mutual
def bailiwicklaw14_RecBack.j0 : Nat → ByteArray → Bool → Int → ByteArray → Int → Int → Int → Int → Int → Int → Option (Bool)
  | 0, _, _, _, _, _, _, _, _, _, _ => none
  | k + 1, x3, x9, x103000, x103001, x103002, x103003, x104000, x104001, x104002, x104003 => (Go.Proofs.Ytapfidadgafpbaa.G.xPutOwner.f x103000 x103001 x103002 x103003).bind fun bt143 => (if bt143.2 = 0 then ((Go.Proofs.Ytapfidadgafpbaa.G.xTakeOwner.f x103000 bt143.1).bind fun bt145 => (if bt143.1.size + x3.size ≤ 9223372036854775807 then ((Go.Proofs.Ytapfidadgafpbaa.G.xTakeOwner.f x103000 (bt143.1 ++ x3)).bind fun bt151 => (if 0 ≤ (mx (wrap64 ((bt143.1.size : Int) - 1)) 0) then (if (mx (wrap64 ((bt143.1.size : Int) - 1)) 0) ≤ (bt143.1.size : Int) then ((Go.Proofs.Ytapfidadgafpbaa.G.xTakeOwner.f x103000 (bt143.1.extract 0 ((mx (wrap64 ((bt143.1.size : Int) - 1)) 0) : Int).toNat)).bind fun bt157 => (if (!(bt145.1 == x103000) || (!(bt145.2.1.toList == x103001.toList) || (!(bt145.2.2.1 == x103002) || (!(bt145.2.2.2.1 == x103003))))) = true then (some false) else (if bt145.2.2.2.2 = 0 then (if ((bt151.2.2.2.2 == 0) != (x3.toList == ([] : List UInt8))) = true then (some false) else (if bt157.2.2.2.2 = 2 then (if (bt143.1.size : Int) > 40 then (some false) else (bailiwicklaw14_RecBack.j1 k x3 x9 x104000 x104001 x104002 x104003)) else (some false))) else (some false)))) else (none)) else (none))) else (none))) else (bailiwicklaw14_RecBack.j1 k x3 x9 x104000 x104001 x104002 x104003))
def bailiwicklaw14_RecBack.j1 : Nat → ByteArray → Bool → Int → Int → Int → Int → Option (Bool)
  | 0, _, _, _, _, _, _ => none
  | k + 1, x3, x9, x104000, x104001, x104002, x104003 => (Go.Proofs.Ytapfidadgafpbaa.G.xPutSlot.f x104000 x104001 x104002 x104003).bind fun bt163 => (if bt163.2 = 0 then ((Go.Proofs.Ytapfidadgafpbaa.G.xTakeSlot.f x104000 bt163.1).bind fun bt165 => (if bt163.1.size + x3.size ≤ 9223372036854775807 then ((Go.Proofs.Ytapfidadgafpbaa.G.xTakeSlot.f x104000 (bt163.1 ++ x3)).bind fun bt171 => (if 0 ≤ (mx (wrap64 ((bt163.1.size : Int) - 1)) 0) then (if (mx (wrap64 ((bt163.1.size : Int) - 1)) 0) ≤ (bt163.1.size : Int) then ((Go.Proofs.Ytapfidadgafpbaa.G.xTakeSlot.f x104000 (bt163.1.extract 0 ((mx (wrap64 ((bt163.1.size : Int) - 1)) 0) : Int).toNat)).bind fun bt177 => (if (!(bt165.1 == x104000) || (!(bt165.2.1 == x104001) || (!(bt165.2.2.1 == x104002) || (!(bt165.2.2.2.1 == x104003))))) = true then (some false) else (if bt165.2.2.2.2 = 0 then (if ((bt171.2.2.2.2 == 0) != (x3.toList == ([] : List UInt8))) = true then (some false) else (if bt177.2.2.2.2 = 2 then (if (bt163.1.size : Int) > 40 then (some false) else (some x9)) else (some false))) else (some false)))) else (none)) else (none))) else (none))) else (some x9))
end
def bailiwicklaw14_RecBack.f (k : Nat) (a0_0 : Int) (a0_1 : Int) (a0_2 : Int) (a0_3 : Int) (a0_4 : Int) (a0_5 : Int) (a0_6 : Int) (a0_7 : Int) (a0_8 : Int) (a0_9 : Bool) (a1_0 : Int) (a1_1 : ByteArray) (a1_2 : Int) (a1_3 : Int) (a2_0 : Int) (a2_1 : Int) (a2_2 : Int) (a2_3 : Int) (a3 : ByteArray) : Option (Bool) := (Go.Proofs.Ytapfidadgafpbaa.S.bailiwicklaw14_examples.f).bind fun t104 => (if t104 = true then ((Go.Proofs.Ytapfidadgafpbaa.G.xPutCap.f a0_0 a0_1 a0_2 a0_3 a0_4 a0_5 a0_6 a0_7 a0_8 a0_9).bind fun bt105 => (if bt105.2 = 0 then ((Go.Proofs.Ytapfidadgafpbaa.G.xTakeCap.f a0_0 bt105.1).bind fun bt107 => (if bt105.1.size + a3.size ≤ 9223372036854775807 then ((Go.Proofs.Ytapfidadgafpbaa.G.xTakeCap.f a0_0 (bt105.1 ++ a3)).bind fun bt119 => (if 0 ≤ (mx (wrap64 ((bt105.1.size : Int) - 1)) 0) then (if (mx (wrap64 ((bt105.1.size : Int) - 1)) 0) ≤ (bt105.1.size : Int) then ((Go.Proofs.Ytapfidadgafpbaa.G.xTakeCap.f a0_0 (bt105.1.extract 0 ((mx (wrap64 ((bt105.1.size : Int) - 1)) 0) : Int).toNat)).bind fun bt131 => (if (!(bt107.1 == a0_0) || (!(bt107.2.1 == a0_1) || (!(bt107.2.2.1 == a0_2) || (!(bt107.2.2.2.1 == a0_3) || (!(bt107.2.2.2.2.1 == a0_4) || (!(bt107.2.2.2.2.2.1 == a0_5) || (!(bt107.2.2.2.2.2.2.1 == a0_6) || (!(bt107.2.2.2.2.2.2.2.1 == a0_7) || (!(bt107.2.2.2.2.2.2.2.2.1 == a0_8) || (!(bt107.2.2.2.2.2.2.2.2.2.1 == a0_9))))))))))) = true then (some false) else (if bt107.2.2.2.2.2.2.2.2.2.2 = 0 then (if ((bt119.2.2.2.2.2.2.2.2.2.2 == 0) != (a3.toList == ([] : List UInt8))) = true then (some false) else (if bt131.2.2.2.2.2.2.2.2.2.2 = 2 then (if (bt105.1.size : Int) > 40 then (some false) else (bailiwicklaw14_RecBack.j0 k a3 t104 a1_0 a1_1 a1_2 a1_3 a2_0 a2_1 a2_2 a2_3)) else (some false))) else (some false)))) else (none)) else (none))) else (none))) else (bailiwicklaw14_RecBack.j0 k a3 t104 a1_0 a1_1 a1_2 a1_3 a2_0 a2_1 a2_2 a2_3))) else (some false))
theorem bailiwicklaw14_RecBack.mono_l : ∀ k, (∀ y0 y1 y2 y3 y4 y5 y6 y7 y8 y9, LeO (bailiwicklaw14_RecBack.j0 k y0 y1 y2 y3 y4 y5 y6 y7 y8 y9) (bailiwicklaw14_RecBack.j0 (k + 1) y0 y1 y2 y3 y4 y5 y6 y7 y8 y9)) ∧ (∀ y0 y1 y2 y3 y4 y5, LeO (bailiwicklaw14_RecBack.j1 k y0 y1 y2 y3 y4 y5) (bailiwicklaw14_RecBack.j1 (k + 1) y0 y1 y2 y3 y4 y5))
  | 0 => ⟨fun _ _ _ _ _ _ _ _ _ _ r h => by simp [bailiwicklaw14_RecBack.j0] at h, fun _ _ _ _ _ _ r h => by simp [bailiwicklaw14_RecBack.j1] at h⟩
  | k + 1 => by
    obtain ⟨ih0, ih1⟩ := bailiwicklaw14_RecBack.mono_l k
    refine ⟨?_, ?_⟩
    · intro y0 y1 y2 y3 y4 y5 y6 y7 y8 y9
      unfold bailiwicklaw14_RecBack.j0
      repeat' first
      | (with_reducible exact ih0 _ _ _ _ _ _ _ _ _ _)
      | (with_reducible exact ih1 _ _ _ _ _ _)
      | (with_reducible exact LeO.refl _)
      | (with_reducible exact LeO.none _)
      | (with_reducible refine LeO.ite ?_ ?_)
      | (with_reducible refine LeO.bind ?_ (fun _ => ?_))
      | exact ih0 _ _ _ _ _ _ _ _ _ _
      | exact ih1 _ _ _ _ _ _
      | exact LeO.none _
      | refine LeO.ite ?_ ?_
      | refine LeO.bind ?_ (fun _ => ?_)
    · intro y0 y1 y2 y3 y4 y5
      unfold bailiwicklaw14_RecBack.j1
      repeat' first
      | (with_reducible exact ih0 _ _ _ _ _ _ _ _ _ _)
      | (with_reducible exact ih1 _ _ _ _ _ _)
      | (with_reducible exact LeO.refl _)
      | (with_reducible exact LeO.none _)
      | (with_reducible refine LeO.ite ?_ ?_)
      | (with_reducible refine LeO.bind ?_ (fun _ => ?_))
      | exact ih0 _ _ _ _ _ _ _ _ _ _
      | exact ih1 _ _ _ _ _ _
      | exact LeO.none _
      | refine LeO.ite ?_ ?_
      | refine LeO.bind ?_ (fun _ => ?_)
theorem bailiwicklaw14_RecBack.mono : ∀ a0 a1 a2 a3 a4 a5 a6 a7 a8 a9 a10 a11 a12 a13 a14 a15 a16 a17 a18 k, LeO (bailiwicklaw14_RecBack.f k a0 a1 a2 a3 a4 a5 a6 a7 a8 a9 a10 a11 a12 a13 a14 a15 a16 a17 a18) (bailiwicklaw14_RecBack.f (k + 1) a0 a1 a2 a3 a4 a5 a6 a7 a8 a9 a10 a11 a12 a13 a14 a15 a16 a17 a18) := by
  intro a0 a1 a2 a3 a4 a5 a6 a7 a8 a9 a10 a11 a12 a13 a14 a15 a16 a17 a18 k
  obtain ⟨ih0, ih1⟩ := bailiwicklaw14_RecBack.mono_l k
  unfold bailiwicklaw14_RecBack.f
  repeat' first
      | (with_reducible exact ih0 _ _ _ _ _ _ _ _ _ _)
      | (with_reducible exact ih1 _ _ _ _ _ _)
      | (with_reducible exact LeO.refl _)
      | (with_reducible exact LeO.none _)
      | (with_reducible refine LeO.ite ?_ ?_)
      | (with_reducible refine LeO.bind ?_ (fun _ => ?_))
      | exact ih0 _ _ _ _ _ _ _ _ _ _
      | exact ih1 _ _ _ _ _ _
      | exact LeO.none _
      | refine LeO.ite ?_ ?_
      | refine LeO.bind ?_ (fun _ => ?_)
def bailiwicklaw14_RecBack.T8 : Bool × List (List Nat × List Nat) := (true, [([], []), ([0], [0]), ([], []), ([], []), ([3], [3]), ([4], [4]), ([5], [5]), ([2, 6], [2, 6]), ([1, 7], [1, 7]), ([8], [8]), ([9], [9]), ([9], [9]), ([], []), ([12, 10, 8, 0, 1, 2, 3, 4, 5, 6, 7, 8, 9, 10, 12], [10, 12]), ([11, 13, 0, 1, 2, 3, 4, 5, 6, 7, 8, 9, 10, 11, 12, 13], [11])])
def bailiwicklaw14_RecBack.B8 : List Nat := [0, 1, 0, 0, 8, 24, 56, 124, 255, 511, 1023, 1023, 0, 6143, 16383]
theorem bailiwicklaw14_RecBack.tab8 : rtab .any (opsOf Try.f7 8) = bailiwicklaw14_RecBack.T8 := by kernel_rfl
theorem bailiwicklaw14_RecBack.bits8 : waitsOk bailiwicklaw14_RecBack.T8.2 bailiwicklaw14_RecBack.B8 = true := by kernel_rfl
def bailiwicklaw14_RecBack.T15 : Bool × List (List Nat × List Nat) := (true, [([], []), ([0], [0]), ([], []), ([], []), ([3], [3]), ([4], [4]), ([5], [5]), ([2, 6], [2, 6]), ([1, 7], [1, 7]), ([8], [8]), ([9], [9]), ([9], [9]), ([], []), ([12, 10, 8, 0, 1, 2, 3, 4, 5, 6, 7, 8, 9, 10, 12], [10, 12]), ([11, 13, 0, 1, 2, 3, 4, 5, 6, 7, 8, 9, 10, 11, 12, 13], [11])])
def bailiwicklaw14_RecBack.B15 : List Nat := [0, 1, 0, 0, 8, 24, 56, 124, 255, 511, 1023, 1023, 0, 6143, 16383]
theorem bailiwicklaw14_RecBack.tab15 : rtab .any (opsOf Try.f7 15) = bailiwicklaw14_RecBack.T15 := by kernel_rfl
theorem bailiwicklaw14_RecBack.bits15 : waitsOk bailiwicklaw14_RecBack.T15.2 bailiwicklaw14_RecBack.B15 = true := by kernel_rfl
def bailiwicklaw14_RecBack.T22 : Bool × List (List Nat × List Nat) := (true, [([], []), ([0], [0]), ([], []), ([], []), ([3], [3]), ([4], [4]), ([5], [5]), ([2, 6], [2, 6]), ([1, 7], [1, 7]), ([8], [8]), ([9], [9]), ([9], [9]), ([], []), ([12, 10, 8, 0, 1, 2, 3, 4, 5, 6, 7, 8, 9, 10, 12], [10, 12]), ([11, 13, 0, 1, 2, 3, 4, 5, 6, 7, 8, 9, 10, 11, 12, 13], [11])])
def bailiwicklaw14_RecBack.B22 : List Nat := [0, 1, 0, 0, 8, 24, 56, 124, 255, 511, 1023, 1023, 0, 6143, 16383]
theorem bailiwicklaw14_RecBack.tab22 : rtab .any (opsOf Try.f7 22) = bailiwicklaw14_RecBack.T22 := by kernel_rfl
theorem bailiwicklaw14_RecBack.bits22 : waitsOk bailiwicklaw14_RecBack.T22.2 bailiwicklaw14_RecBack.B22 = true := by kernel_rfl
abbrev bN_ := @blk_drewN
abbrev bD_ := @blk_drew
abbrev bA_ := @blk_alloc
abbrev wA_ := @below_alloc
abbrev wN_ := @pw_below_drewN
abbrev wD_ := @below_drew1
abbrev oB0_ (x0 : Int) (x1 : Int) (x2 : Int) (x3 : Int) (x4 : Int) (x5 : Int) (x6 : Int) (x7 : Int) (x8 : Int) (x9 : Bool) : Obj := .cells #[.int .i64 x0, .int .i64 x1, .int .i64 x2, .int .i64 x3, .int .i64 x4, .int .i64 x5, .int .i64 x6, .int .i64 x7, .int .i64 x8, .bool x9] 23 (0, 0)
abbrev oB1_ (x0 : Int) (x1 : ByteArray) (x2 : Int) (x3 : Int) : Obj := .cells #[.int .i64 x0, .string x1, .int .i64 x2, .int .i64 x3] 34 (0, 0)
abbrev oB2_ (x0 : Int) (x1 : Int) (x2 : Int) (x3 : Int) : Obj := .cells #[.int .i64 x0, .int .i64 x1, .int .i64 x2, .int .u64 x3] 26 (0, 0)
end Go.Proofs.Ytapfidadgafpbaa.B
