/- What both have together, and in common, are as many as each has; and the other laws of sets. No condition. -/
import Derived.Test.YtbneljnmhofjfaaB1
import Derived.Test.YtbneljnmhofjfaaB2
import Derived.Test.YtbneljnmhofjfaaGx4
import Derived.OpenShut
namespace Go.Proofs.Ytbneljnmhofjfaa.Pure
set_option linter.unusedVariables false
set_option linter.unusedSimpArgs false
open Go.RowKit Go.Proofs.Ytbneljnmhofjfaa.G Go.Proofs.YtbneljnmhofjfaaW.PrintWords Go.Proofs.YtbneljnmhofjfaaW.PrintLast Go.Proofs.YtbneljnmhofjfaaW.PrintMore

theorem BitsAlgebra : bailiwicklaw08_BitsAlgebra.Pure := by
  intro a0 b0 hs1 hs2
  unfold bailiwicklaw08_BitsAlgebra.f
  have hm : 0 ≤ mn (mn (a0.size : Int) (b0.size : Int)) 100 ∧ mn (mn (a0.size : Int) (b0.size : Int)) 100 ≤ (a0.size : Int) ∧ mn (mn (a0.size : Int) (b0.size : Int)) 100 ≤ (b0.size : Int) ∧ mn (mn (a0.size : Int) (b0.size : Int)) 100 ≤ 100 := by rw [mn_eq, mn_eq]; omega
  rw [ex_eq, Option.bind_some, if_pos rfl, if_pos hm.1, if_pos hm.2.1, if_pos hm.2.2.1]
  generalize mn (mn (a0.size : Int) (b0.size : Int)) 100 = n at *
  have hza : (a0.extract 0 ((n) : Int).toNat).size = n.toNat := by rw [ByteArray.size_extract]; omega
  have hzb : (b0.extract 0 ((n) : Int).toNat).size = n.toNat := by rw [ByteArray.size_extract]; omega
  generalize a0.extract 0 ((n) : Int).toNat = a at *
  generalize b0.extract 0 ((n) : Int).toNat = b at *
  have ha : a.size ≤ 100 := by omega
  have hb : b.size ≤ 100 := by omega
  have hl : a.data.toList.length = b.data.toList.length := by show a.size = b.size; omega
  have zj : ∀ x y : List UInt8, x.length ≤ 100 → (⟨(JJ x y).toArray⟩ : ByteArray).size ≤ 100 := fun x y h => by
    show (JJ x y).length ≤ 100
    rw [JJ_len]; exact h
  have zl : ∀ x y : List UInt8, x.length ≤ 100 → (⟨(LL x y).toArray⟩ : ByteArray).size ≤ 100 := fun x y h => by
    show (LL x y).length ≤ 100
    rw [LL_len]; exact h
  have ha' : a.data.toList.length ≤ 100 := ha
  have hb' : b.data.toList.length ≤ 100 := hb
  have lj : (JJ a.data.toList b.data.toList).length ≤ 100 := by rw [JJ_len]; exact ha'
  have ll : (LL a.data.toList b.data.toList).length ≤ 100 := by rw [LL_len]; exact ha'
  have q1 := zj a.data.toList b.data.toList ha'
  have q2 := zl a.data.toList b.data.toList ha'
  have q3 := zl a.data.toList (LL a.data.toList b.data.toList) ha'
  have q4 := zl a.data.toList a.data.toList ha'
  have c1 := countL_le a.data.toList
  have c2 := countL_le b.data.toList
  have c3 := alg_count a.data.toList b.data.toList hl
  rw [join_eq a b (by omega) (by omega), Option.bind_some, less_eq a b (by omega) (by omega), Option.bind_some, less_eq a _ (by omega) (by omega), Option.bind_some,
    count_eq _ (by omega), Option.bind_some, count_eq _ (Nat.le_trans q3 (by decide)), Option.bind_some, count_eq a (by omega), Option.bind_some, count_eq b (by omega), Option.bind_some]
  rw [if_pos (by
    congr 1
    show ((countL (JJ a.data.toList b.data.toList) : Nat) : Int) + ((countL (LL a.data.toList (LL a.data.toList b.data.toList)) : Nat) : Int) = _
    omega)]
  rw [join_eq b a (by omega) (by omega), Option.bind_some, if_pos (by rw [alg_comm _ _ hl]), less_eq a a (by omega) (by omega), Option.bind_some, count_eq _ (by omega), Option.bind_some, if_pos (by
    show ((countL (LL a.data.toList a.data.toList) : Nat) : Int) = 0
    rw [alg_self]; rfl)]
  rw [join_eq a a (by omega) (by omega), Option.bind_some, if_pos (by rw [alg_same, mk_list]), less_eq _ b (by omega) (by omega), Option.bind_some, Option.bind_some, if_pos (by
    show (⟨(LL (JJ a.data.toList b.data.toList) b.data.toList).toArray⟩ : ByteArray).toList = _
    rw [alg_away]), Option.bind_some, join_eq _ _ (Nat.le_trans q2 (by decide)) (Nat.le_trans q3 (by decide)), Option.bind_some]
  show some ((⟨(JJ (LL a.data.toList b.data.toList) (LL a.data.toList (LL a.data.toList b.data.toList))).toArray⟩ : ByteArray).toList == a.toList) = some true
  rw [alg_back, mk_list]
  simp
end Go.Proofs.Ytbneljnmhofjfaa.Pure
