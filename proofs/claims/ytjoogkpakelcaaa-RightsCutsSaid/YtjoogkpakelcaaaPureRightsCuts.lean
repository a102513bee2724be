/- What two masks have in common is a part of both, whichever comes first; a part of a part is a part. No condition. -/
import Derived.Test.YtjoogkpakelcaaaB0
import Derived.Test.YtjoogkpakelcaaaGx3
import Derived.OpenShut
namespace Go.Proofs.Ytjoogkpakelcaaa.Pure
set_option linter.unusedVariables false
set_option linter.unusedSimpArgs false
open Go.RowKit Go.Proofs.Ytjoogkpakelcaaa.G Go.Proofs.YtjoogkpakelcaaaW.PrintWords Go.Proofs.YtjoogkpakelcaaaW.PrintLast

theorem RightsCuts : bailiwicklaw05_RightsCuts.Pure := by
  intro a b c ha hb hc
  have ba := bounds_u16 ha
  have bb := bounds_u16 hb
  have bc := bounds_u16 hc
  obtain ⟨x, rfl⟩ := Int.eq_ofNat_of_zero_le ba.1
  obtain ⟨y, rfl⟩ := Int.eq_ofNat_of_zero_le bb.1
  obtain ⟨z, rfl⟩ := Int.eq_ofNat_of_zero_le bc.1
  refine ⟨17, ?_⟩
  have w : ∀ q : Nat, q < 65536 → wrap64 (q : Int) = (q : Int) := fun q hq => by unfold wrap64; omega
  have hx : x < 65536 := by omega
  have hy : y < 65536 := by omega
  have hz : z < 65536 := by omega
  have hxy : x &&& y < 65536 := Nat.lt_of_le_of_lt Nat.and_le_left hx
  have hyz : y &&& z < 65536 := Nat.lt_of_le_of_lt Nat.and_le_left hy
  have p1 : x &&& y &&& x = x &&& y := by rw [Nat.and_comm x y, Nat.and_assoc, Nat.and_self]
  have p2 : x &&& y &&& y = x &&& y := by rw [Nat.and_assoc, Nat.and_self]
  unfold bailiwicklaw05_RightsCuts.f
  rw [ex_eq _ (by omega), Option.bind_some, if_pos rfl, w x hx, w y hy, w z hz, cut_eq x y hx hy, Option.bind_some, cut_eq _ z hxy hz, Option.bind_some, sub_eq _ x hxy hx, Option.bind_some, if_pos (by simp [p1]), sub_eq _ y hxy hy, Option.bind_some, if_pos (by simp [p2]),
    cut_eq y x hy hx, Option.bind_some, if_pos (by rw [Nat.and_comm]), cut_eq y z hy hz, Option.bind_some, cut_eq x _ hx hyz, Option.bind_some, if_pos (by rw [Nat.and_assoc]), cut_eq x x hx hx, Option.bind_some, if_pos (by rw [Nat.and_self]), sub_eq x x hx hx, Option.bind_some, if_pos (by simp), sub_eq x y hx hy, Option.bind_some, if_pos ?_,
    count_eq _ hxy, Option.bind_some, count_eq x hx, Option.bind_some]
  · have := pc_mono (x &&& y) x p1
    simp
    omega
  · rw [beq_iff_eq, Bool.eq_iff_iff]
    simp
    omega

end Go.Proofs.Ytjoogkpakelcaaa.Pure
