/- Two masks have as many rights as both together and those in common; of a part there are not more; what is no mask has none. No condition. -/
import Derived.Test.YtjoogkpakelcaaaB0
import Derived.Test.YtjoogkpakelcaaaGx3
import Derived.OpenShut
namespace Go.Proofs.Ytjoogkpakelcaaa.Pure
set_option linter.unusedVariables false
set_option linter.unusedSimpArgs false
open Go.RowKit Go.Proofs.Ytjoogkpakelcaaa.G Go.Proofs.YtjoogkpakelcaaaW.PrintWords Go.Proofs.YtjoogkpakelcaaaW.PrintLast

theorem counts_j0 (x y : Nat) (hx : x < 65536) (hy : y < 65536) (n : Int) (b : Bool) (hb : b = decide (0 ≤ n ∧ n < 65536)) (k : Nat) : bailiwicklaw05_RightsCounts.j0 (k + 1) n true (x : Int) (y : Int) b = some true := by
  have ho : x ||| y < 65536 := Nat.or_lt_two_pow (n := 16) (by omega) (by omega)
  have hc : x &&& y < 65536 := Nat.lt_of_le_of_lt Nat.and_le_left hx
  have p1 : x &&& (x ||| y) = x := by
    refine Nat.eq_of_testBit_eq fun i => ?_
    rw [Nat.testBit_and, Nat.testBit_or]
    cases x.testBit i <;> simp
  have p2 : ((x ||| y) &&& x = x ||| y) ↔ (y &&& x = y) := by
    constructor
    · intro h
      refine Nat.eq_of_testBit_eq fun i => ?_
      have h1 : ((x.testBit i || y.testBit i) && x.testBit i) = (x.testBit i || y.testBit i) := by rw [← Nat.testBit_or, ← Nat.testBit_and, h]
      rw [Nat.testBit_and]
      revert h1
      cases x.testBit i <;> cases y.testBit i <;> simp
    · intro h
      refine Nat.eq_of_testBit_eq fun i => ?_
      have h1 : (y.testBit i && x.testBit i) = y.testBit i := by rw [← Nat.testBit_and, h]
      rw [Nat.testBit_and, Nat.testBit_or]
      revert h1
      cases x.testBit i <;> cases y.testBit i <;> simp
  have hb16 : ∀ q, pc q ≤ 16 := fun q => bitsOf_length q 16 0
  have w : ∀ q : Nat, q < 65536 → wrap64 (q : Int) = (q : Int) := fun q hq => by unfold wrap64; omega
  have pb := pc_both x y
  have a1 := hb16 x
  have a2 := hb16 y
  have a3 := hb16 (x ||| y)
  have a4 := hb16 (x &&& y)
  simp only [bailiwicklaw05_RightsCounts.j0]
  rw [if_pos trivial, count_eq x hx, Option.bind_some, count_eq y hy, Option.bind_some, i64_or _ _ (by omega) (by omega), count_eq _ ho, Option.bind_some, cut_eq x y hx hy, Option.bind_some, count_eq _ hc, Option.bind_some, if_pos ?_, sub_eq x _ hx ho, Option.bind_some, if_pos (by simp [p1]), sub_eq _ x ho hx, Option.bind_some, sub_eq y x hy hx, Option.bind_some, if_pos ?_]
  · by_cases h : 0 ≤ n ∧ n < 65536
    · obtain ⟨m, rfl⟩ := Int.eq_ofNat_of_zero_le h.1
      rw [sub_eq m m (by omega) (by omega), Option.bind_some, if_pos (by simp [hb]; omega), if_pos (by simp [hb]; omega)]
    · have hb' : b = false := by simpa [hb] using h
      rw [sub_none n n (by omega), Option.bind_some, if_pos (by rw [hb']; rfl), if_neg (by simp [hb']), count_none n h, Option.bind_some, if_pos rfl, cut_none n x (by omega), Option.bind_some, if_pos rfl, sub_none x n (by omega)]
      rfl
  · rw [beq_iff_eq, Bool.eq_iff_iff]
    simp [p2]
  · rw [← Int.natCast_add, ← Int.natCast_add, w _ (by omega), w _ (by omega)]
    omega
theorem RightsCounts : bailiwicklaw05_RightsCounts.Pure := by
  intro a b n ha hb hn
  have ba := bounds_u16 ha
  have bb := bounds_u16 hb
  obtain ⟨x, rfl⟩ := Int.eq_ofNat_of_zero_le ba.1
  obtain ⟨y, rfl⟩ := Int.eq_ofNat_of_zero_le bb.1
  refine ⟨17, ?_⟩
  unfold bailiwicklaw05_RightsCounts.f
  have w : ∀ q : Nat, q < 65536 → wrap64 (q : Int) = (q : Int) := fun q hq => by unfold wrap64; omega
  rw [ex_eq _ (by omega), Option.bind_some, if_pos rfl, w x (by omega), w y (by omega)]
  split
  · rename_i h
    exact counts_j0 x y (by omega) (by omega) n _ (by rw [Bool.eq_iff_iff]; simp; omega) 16
  · rename_i h
    exact counts_j0 x y (by omega) (by omega) n _ (by rw [Bool.eq_iff_iff]; simp; omega) 16

end Go.Proofs.Ytjoogkpakelcaaa.Pure
