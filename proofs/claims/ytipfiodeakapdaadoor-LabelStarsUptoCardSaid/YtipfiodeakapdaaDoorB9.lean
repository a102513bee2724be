/-
  More of a text's parts.
-/
import Derived.Test.YtipfiodeakapdaaDoorB8
namespace Go.Proofs.YtipfiodeakapdaaDoor.R
set_option linter.unusedVariables false
set_option linter.unusedSimpArgs false
open Go.RowKit Go.Proofs.YtipfiodeakapdaaDoorW.PrintWords Go.Proofs.YtipfiodeakapdaaDoorW.PrintLast Go.Proofs.YtipfiodeakapdaaDoorW.PrintMore
theorem jn_take_len : ∀ (ps : List (List UInt8)) (i : Nat), (jn (ps.take i)).length ≤ (jn ps).length
  | [], i => by rw [List.take_nil]; exact Nat.le_refl _
  | [x], 0 => Nat.zero_le _
  | [x], i + 1 => by rw [List.take_succ_cons, List.take_nil]; exact Nat.le_refl _
  | x :: y :: r, 0 => Nat.zero_le _
  | x :: y :: r, 1 => by
    show (jn [x]).length ≤ (x ++ 46 :: jn (y :: r)).length
    rw [List.length_append]
    show x.length ≤ _
    omega
  | x :: y :: r, i + 2 => by
    have ih := jn_take_len (y :: r) (i + 1)
    rw [List.take_succ_cons, jn_cons _ _ (by simp), jn_cons _ (y :: r) (by simp), List.length_append, List.length_append, List.length_cons, List.length_cons]
    omega
theorem jn_mem_len : ∀ (ps : List (List UInt8)) (x : List UInt8), x ∈ ps → x.length ≤ (jn ps).length
  | [], x, h => by cases h
  | [y], x, h => by rw [List.mem_singleton.1 h]; exact Nat.le_refl _
  | y :: z :: r, x, h => by
    rw [jn_cons _ _ (by simp), List.length_append, List.length_cons]
    rcases List.mem_cons.1 h with rfl | h
    · omega
    · have := jn_mem_len (z :: r) x h
      omega
theorem jn_snoc : ∀ (r : List (List UInt8)) (x : List UInt8), r ≠ [] → jn (r ++ [x]) = jn r ++ 46 :: x
  | [], x, h => absurd rfl h
  | [y], x, _ => rfl
  | y :: z :: r, x, _ => by
    have ih := jn_snoc (z :: r) x (by simp)
    rw [List.cons_append, jn_cons _ _ (by simp), ih, jn_cons y (z :: r) (by simp)]
    simp
end Go.Proofs.YtipfiodeakapdaaDoor.R
