/- What is put in is in it, and what is taken out is not; nothing else has changed; there is one more, or one less, or none. No condition. -/
import Derived.Test.YtbneljnmhofjfaaB1
import Derived.Test.YtbneljnmhofjfaaVx1
import Derived.OpenShut
namespace Go.Proofs.Ytbneljnmhofjfaa.Pure
set_option linter.unusedVariables false
set_option linter.unusedSimpArgs false
open Go.RowKit Go.Proofs.Ytbneljnmhofjfaa.G Go.Proofs.YtbneljnmhofjfaaW.PrintWords Go.Proofs.YtbneljnmhofjfaaW.PrintLast Go.Proofs.YtbneljnmhofjfaaW.PrintMore

theorem exV : V.bailiwicklaw08_examples.f = some true := ex_eq
theorem bwith_j0 (b i o : ByteArray) (x1 x2 : Int) (room : Bool) (n m : Int) (h1 h2 h3 : Bool) (hi : i.size = b.size) (ho : o.size = b.size) (hs : b.size ≤ 100000)
    (ci : bits_Count.f i = some n) (co : bits_Count.f o = some m) (e1 : P.bits_Has.f i x1 = some room) (e2 : P.bits_Has.f o x1 = some false)
    (e3 : x2 ≠ x1 → P.bits_Has.f i x2 = P.bits_Has.f b x2) (e4 : x2 ≠ x1 → P.bits_Has.f o x2 = P.bits_Has.f b x2) (e5 : ∃ y, P.bits_Has.f b x2 = some y)
    (cn : n - m = if room then 1 else 0) (heq : i = b ∨ o = b) (k : Nat) : V.bailiwicklaw08_BitsWith.j0 (k + 1) b x1 x2 true i o room = some true := by
  rw [V.bailiwicklaw08_BitsWith.j0, ci, Option.bind_some, co, Option.bind_some, if_pos rfl, if_pos (by omega), if_pos (by omega), e1, Option.bind_some, if_pos (by simp), e2, Option.bind_some, if_neg (by decide)]
  obtain ⟨y, e5⟩ := e5
  have c1 : ((wrap64 (n - m) == 1) == room) = true := by rw [cn]; cases room <;> (unfold wrap64; decide)
  have c2 : ((wrap64 (n - m) == 0) == (!room)) = true := by rw [cn]; cases room <;> (unfold wrap64; decide)
  have fin : (if i.toList = b.toList then some true else some (o.toList == b.toList)) = some true := by
    rcases heq with rfl | rfl
    · rw [if_pos rfl]
    · by_cases h : i.toList = o.toList
      · rw [if_pos h]
      · rw [if_neg h]; simp
  by_cases hx : x2 = x1
  · rw [if_pos hx, if_pos c1, if_pos c2, fin]
  · rw [if_neg hx, e3 hx, e4 hx, e5]
    simp only [Option.bind_some, beq_self_eq_true, if_true]
    rw [if_pos c1, if_pos c2, fin]
theorem has_mk (l : List UInt8) (i : Nat) (hi : (i : Int) ≤ 9223372036854775807) : P.bits_Has.f ⟨l.toArray⟩ (i : Int) = some (hasL l i) := by
  rw [has_nat _ _ hi]
theorem has_any (b : ByteArray) (i : Int) (h : -9223372036854775808 ≤ i ∧ i ≤ 9223372036854775807) : ∃ y, P.bits_Has.f b i = some y := ⟨_, has_eq b i h.1 h.2⟩
theorem BitsWith : V.bailiwicklaw08_BitsWith.Pure := by
  intro a0 a1 a2 hs h1 h2
  refine ⟨1, ?_⟩
  unfold V.bailiwicklaw08_BitsWith.f
  have hm : 0 ≤ mn (a0.size : Int) 300 ∧ mn (a0.size : Int) 300 ≤ (a0.size : Int) ∧ mn (a0.size : Int) 300 ≤ 300 := by rw [mn_eq]; omega
  rw [exV, Option.bind_some, if_pos rfl, if_pos hm.1, if_pos hm.2.1]
  generalize hb : a0.extract 0 ((mn (a0.size : Int) 300) : Int).toNat = b
  have hz : b.size ≤ 300 := by rw [← hb, ByteArray.size_extract]; omega
  replace h1 := bounds_i64 h1
  replace h2 := bounds_i64 h2
  have hl : b.data.toList.length = b.size := rfl
  rw [wr (8 * (b.size : Int)) (by omega) (by omega)]
  by_cases h : 0 ≤ a1
  · obtain ⟨n, rfl⟩ := Int.eq_ofNat_of_zero_le h
    rw [with_put b n true (by omega) (by omega), Option.bind_some, with_put b n false (by omega) (by omega), Option.bind_some, if_pos (by omega)]
    have li := put_len b.data.toList n true
    have lo := put_len b.data.toList n false
    have zi : (⟨(putL b.data.toList n true).toArray⟩ : ByteArray).size = b.size := (List.size_toArray).trans (li.trans hl)
    have zo : (⟨(putL b.data.toList n false).toArray⟩ : ByteArray).size = b.size := (List.size_toArray).trans (lo.trans hl)
    by_cases hr : n / 8 < b.size
    · rw [decide_eq_true (show (n : Int) < 8 * (b.size : Int) by omega)]
      have hp := fun on j => put_has b.data.toList n on j hr
      refine bwith_j0 b _ _ n a2 true _ _ true true true zi zo (by omega) (count_eq _ (by omega)) (count_eq _ (by omega)) ?_ ?_ ?_ ?_ (has_any b a2 h2) ?_ ?_ 0
      · rw [has_mk _ _ (by omega), hp, if_pos rfl]
      · rw [has_mk _ _ (by omega), hp, if_pos rfl]
      · intro hx
        by_cases h0 : 0 ≤ a2
        · obtain ⟨j, rfl⟩ := Int.eq_ofNat_of_zero_le h0
          rw [has_mk _ _ (by omega), has_nat _ _ (by omega), hp, if_neg (by omega)]
        · rw [has_neg _ _ (by omega) (by omega), has_neg _ _ (by omega) (by omega)]
      · intro hx
        by_cases h0 : 0 ≤ a2
        · obtain ⟨j, rfl⟩ := Int.eq_ofNat_of_zero_le h0
          rw [has_mk _ _ (by omega), has_nat _ _ (by omega), hp, if_neg (by omega)]
        · rw [has_neg _ _ (by omega) (by omega), has_neg _ _ (by omega) (by omega)]
      · have := count_turn b.data.toList n hr
        show ((countL (putL b.data.toList n true) : Nat) : Int) - ((countL (putL b.data.toList n false) : Nat) : Int) = 1
        omega
      · cases hh : hasL b.data.toList n with
        | true => left; rw [putL, if_neg (fun g => g.2 hh), mk_list]
        | false => right; rw [putL, if_neg (fun g => g.2 hh), mk_list]
    · rw [decide_eq_false (show ¬ (n : Int) < 8 * (b.size : Int) by omega), put_out _ _ _ (by omega), put_out _ _ _ (by omega), mk_list]
      have e : P.bits_Has.f b (n : Int) = some false := by rw [has_nat _ _ (by omega), hasL_out _ _ (by omega)]
      exact bwith_j0 b b b n a2 false _ _ true true true rfl rfl (by omega) (count_eq b (by omega)) (count_eq b (by omega)) e e (fun _ => rfl) (fun _ => rfl) (has_any b a2 h2) (by simp) (Or.inl rfl) 0
  · rw [with_neg b a1 true (by omega) (by omega) (by omega), Option.bind_some, with_neg b a1 false (by omega) (by omega) (by omega), Option.bind_some, if_neg (by omega)]
    have e := has_neg b a1 (by omega) (by omega)
    exact bwith_j0 b b b a1 a2 false _ _ true true true rfl rfl (by omega) (count_eq b (by omega)) (count_eq b (by omega)) e e (fun _ => rfl) (fun _ => rfl) (has_any b a2 h2) (by simp) (Or.inl rfl) 0
end Go.Proofs.Ytbneljnmhofjfaa.Pure
