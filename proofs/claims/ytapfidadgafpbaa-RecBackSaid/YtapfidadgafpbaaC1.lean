/-
  Plain facts beneath the statement on caps: what is read, without the document's answer.
-/
import Derived.Test.YtapfidadgafpbaaC0
namespace Go.Proofs.Ytapfidadgafpbaa.Pure
set_option linter.unusedVariables false
set_option linter.unusedSimpArgs false
open Go.RowKit Go.Proofs.Ytapfidadgafpbaa.G Go.Proofs.YtapfidadgafpbaaW.PrintWords Go.Proofs.YtapfidadgafpbaaW.PrintLast Go.Proofs.YtapfidadgafpbaaW.PrintMore
theorem dat_one (s : ByteArray) (a : Nat) : dat s a 1 = bt s (a : Int) := by simp [dat]
theorem capB_dat (s : ByteArray) (h : 24 ≤ s.size) (j : Bool) : capB (dat s 0 3) (dat s 3 3) (dat s 6 3) (dat s 9 2) (dat s 11 4) (dat s 15 1) (dat s 16 4) (dat s 20 3) j = s.extract 0 23 ++ strOfNums (be 1 (lastB j)) := by
  unfold capB
  rw [str_at s 0 3 (by omega)]
  rw [str_at s 3 3 (by omega)]
  rw [str_at s 6 3 (by omega)]
  rw [str_at s 9 2 (by omega)]
  rw [str_at s 11 4 (by omega)]
  rw [str_at s 15 1 (by omega)]
  rw [str_at s 16 4 (by omega)]
  rw [str_at s 20 3 (by omega)]
  simp only [Nat.reduceAdd]
  rw [extract_append s 0 3 6 (by omega) (by omega) (by omega)]
  rw [extract_append s 0 6 9 (by omega) (by omega) (by omega)]
  rw [extract_append s 0 9 11 (by omega) (by omega) (by omega)]
  rw [extract_append s 0 11 15 (by omega) (by omega) (by omega)]
  rw [extract_append s 0 15 16 (by omega) (by omega) (by omega)]
  rw [extract_append s 0 16 20 (by omega) (by omega) (by omega)]
  rw [extract_append s 0 20 23 (by omega) (by omega) (by omega)]
theorem split_last (s : ByteArray) (h : s.size = 24) : s = s.extract 0 23 ++ strOfNums (be 1 (bt s 23)) := by
  have e := str_at s 23 1 (by omega)
  rw [dat_one s 23] at e
  rw [show ((23 : Nat) : Int) = 23 from rfl] at e
  rw [e, extract_append s 0 23 (23 + 1) (by omega) (by omega) (by omega), show 23 + 1 = s.size from h.symm, extract_all]
theorem capB_is (s : ByteArray) (h : 24 ≤ s.size) : capB (dat s 0 3) (dat s 3 3) (dat s 6 3) (dat s 9 2) (dat s 11 4) (dat s 15 1) (dat s 16 4) (dat s 20 3) (bt s 23 == 1) = s ↔ s.size = 24 ∧ bt s 23 ≤ 1 := by
  have r := bt_range s 23
  rw [capB_dat s h]
  constructor
  · intro e
    have hz : s.size = 24 := by
      have := congrArg ByteArray.size e
      rw [ByteArray.size_append, bytes_size, ByteArray.size_extract] at this
      omega
    refine ⟨hz, ?_⟩
    have hl : 0 ≤ lastB (bt s 23 == 1) ∧ lastB (bt s 23 == 1) ≤ 1 := by unfold lastB; split <;> omega
    have := bt_last (s.extract 0 23) (lastB (bt s 23 == 1)) (by rw [ByteArray.size_extract]; omega) (by omega) (by omega)
    rw [e] at this
    omega
  · rintro ⟨hz, h1⟩
    have : lastB (bt s 23 == 1) = bt s 23 := by
      unfold lastB
      by_cases g : bt s 23 = 1
      · simp [g]
      · simp only [beq_iff_eq, g, if_false]; omega
    rw [this]
    exact (split_last s hz).symm
def capG (id : Int) (s : ByteArray) : Prop := s.size = 24 ∧ bt s 23 ≤ 1 ∧ capOk id (dat s 0 3) (dat s 3 3) (dat s 6 3) (dat s 9 2) (dat s 11 4) (dat s 15 1) (dat s 16 4) (dat s 20 3) = true
instance (id : Int) (s : ByteArray) : Decidable (capG id s) := by unfold capG; infer_instance
theorem ctake_eq (id : Int) (s : ByteArray) : xTakeCap.f id s = if capG id s then some (id, (dat s 0 3), (dat s 3 3), (dat s 6 3), (dat s 9 2), (dat s 11 4), (dat s 15 1), (dat s 16 4), (dat s 20 3), (bt s 23 == 1), 0) else some (0, 0, 0, 0, 0, 0, 0, 0, 0, false, 2) := by
  have S0 : St s 0 s false := ⟨fun _ => ⟨Nat.zero_le _, (extract_all s).symm⟩, fun h => absurd h (by decide)⟩
  obtain ⟨n1, r1, e1, t1, S1, v1⟩ := S0.step 3 (by decide) (by decide) (by decide)
  obtain ⟨n2, r2, e2, t2, S2, v2⟩ := S1.step 3 (by decide) (by decide) (by decide)
  obtain ⟨n3, r3, e3, t3, S3, v3⟩ := S2.step 3 (by decide) (by decide) (by decide)
  obtain ⟨n4, r4, e4, t4, S4, v4⟩ := S3.step 2 (by decide) (by decide) (by decide)
  obtain ⟨n5, r5, e5, t5, S5, v5⟩ := S4.step 4 (by decide) (by decide) (by decide)
  obtain ⟨n6, r6, e6, t6, S6, v6⟩ := S5.step 1 (by decide) (by decide) (by decide)
  obtain ⟨n7, r7, e7, t7, S7, v7⟩ := S6.step 4 (by decide) (by decide) (by decide)
  obtain ⟨n8, r8, e8, t8, S8, v8⟩ := S7.step 3 (by decide) (by decide) (by decide)
  obtain ⟨n9, r9, e9, t9, S9, v9⟩ := S8.step 1 (by decide) (by decide) (by decide)
  replace t1 : P.num_Take.f 40 s 3 = some (n1, r1, e1) := t1
  replace t2 : P.num_Take.f 40 r1 3 = some (n2, r2, e2) := t2
  replace t3 : P.num_Take.f 40 r2 3 = some (n3, r3, e3) := t3
  replace t4 : P.num_Take.f 40 r3 2 = some (n4, r4, e4) := t4
  replace t5 : P.num_Take.f 40 r4 4 = some (n5, r5, e5) := t5
  replace t6 : P.num_Take.f 40 r5 1 = some (n6, r6, e6) := t6
  replace t7 : P.num_Take.f 40 r6 4 = some (n7, r7, e7) := t7
  replace t8 : P.num_Take.f 40 r7 3 = some (n8, r8, e8) := t8
  replace t9 : P.num_Take.f 40 r8 1 = some (n9, r9, e9) := t9
  unfold xTakeCap.f
  rw [t1, Option.bind_some, t2, Option.bind_some, t3, Option.bind_some, t4, Option.bind_some, t5, Option.bind_some, t6, Option.bind_some, t7, Option.bind_some, t8, Option.bind_some, t9, Option.bind_some]
  simp only [Nat.reduceAdd, Nat.zero_add] at v1 v2 v3 v4 v5 v6 v7 v8 v9
  show takeCap.g 40 id s (fun i => [n1, n2, n3, n4, n5, n6, n7, n8, n9].getD i.val 0) (((((((((false || (e1 != 0)) || (e2 != 0)) || (e3 != 0)) || (e4 != 0)) || (e5 != 0)) || (e6 != 0)) || (e7 != 0)) || (e8 != 0)) || (e9 != 0)) = _
  cases hb9 : (((((((((false || (e1 != 0)) || (e2 != 0)) || (e3 != 0)) || (e4 != 0)) || (e5 != 0)) || (e6 != 0)) || (e7 != 0)) || (e8 != 0)) || (e9 != 0))
  case true =>
    rw [hb9] at S9
    have := (S9.2 rfl).1
    rw [if_neg (by rintro ⟨h, -⟩; omega)]
    rfl
  case false =>
    have hb8 : ((((((((false || (e1 != 0)) || (e2 != 0)) || (e3 != 0)) || (e4 != 0)) || (e5 != 0)) || (e6 != 0)) || (e7 != 0)) || (e8 != 0)) = false := (Bool.or_eq_false_iff.1 hb9).1
    have hb7 : (((((((false || (e1 != 0)) || (e2 != 0)) || (e3 != 0)) || (e4 != 0)) || (e5 != 0)) || (e6 != 0)) || (e7 != 0)) = false := (Bool.or_eq_false_iff.1 hb8).1
    have hb6 : ((((((false || (e1 != 0)) || (e2 != 0)) || (e3 != 0)) || (e4 != 0)) || (e5 != 0)) || (e6 != 0)) = false := (Bool.or_eq_false_iff.1 hb7).1
    have hb5 : (((((false || (e1 != 0)) || (e2 != 0)) || (e3 != 0)) || (e4 != 0)) || (e5 != 0)) = false := (Bool.or_eq_false_iff.1 hb6).1
    have hb4 : ((((false || (e1 != 0)) || (e2 != 0)) || (e3 != 0)) || (e4 != 0)) = false := (Bool.or_eq_false_iff.1 hb5).1
    have hb3 : (((false || (e1 != 0)) || (e2 != 0)) || (e3 != 0)) = false := (Bool.or_eq_false_iff.1 hb4).1
    have hb2 : ((false || (e1 != 0)) || (e2 != 0)) = false := (Bool.or_eq_false_iff.1 hb3).1
    have hb1 : (false || (e1 != 0)) = false := (Bool.or_eq_false_iff.1 hb2).1
    have u1 := v1 hb1
    clear v1
    have u2 := v2 hb2
    clear v2
    have u3 := v3 hb3
    clear v3
    have u4 := v4 hb4
    clear v4
    have u5 := v5 hb5
    clear v5
    have u6 := v6 hb6
    clear v6
    have u7 := v7 hb7
    clear v7
    have u8 := v8 hb8
    clear v8
    have u9 := v9 hb9
    clear v9
    rw [hb9] at S9
    have hz := (S9.1 rfl).1
    have d1 := dat_lt s 0 3
    rw [show (256 : Int) ^ 3 = 16777216 from rfl] at d1
    have d2 := dat_lt s 3 3
    rw [show (256 : Int) ^ 3 = 16777216 from rfl] at d2
    have d3 := dat_lt s 6 3
    rw [show (256 : Int) ^ 3 = 16777216 from rfl] at d3
    have d4 := dat_lt s 9 2
    rw [show (256 : Int) ^ 2 = 65536 from rfl] at d4
    have d5 := dat_lt s 11 4
    rw [show (256 : Int) ^ 4 = 4294967296 from rfl] at d5
    have d6 := dat_lt s 15 1
    rw [show (256 : Int) ^ 1 = 256 from rfl] at d6
    have d7 := dat_lt s 16 4
    rw [show (256 : Int) ^ 4 = 4294967296 from rfl] at d7
    have d8 := dat_lt s 20 3
    rw [show (256 : Int) ^ 3 = 16777216 from rfl] at d8
    have d9 := dat_lt s 23 1
    rw [show (256 : Int) ^ 1 = 256 from rfl] at d9
    have q1 : wrap64 n1 = dat s 0 3 := by rw [u1]; exact wrap64_in _ (by show _ ≤ dat s 0 3; omega) (by show dat s 0 3 ≤ _; omega)
    have q2 : wrap64 n2 = dat s 3 3 := by rw [u2]; exact wrap64_in _ (by show _ ≤ dat s 3 3; omega) (by show dat s 3 3 ≤ _; omega)
    have q3 : wrap64 n3 = dat s 6 3 := by rw [u3]; exact wrap64_in _ (by show _ ≤ dat s 6 3; omega) (by show dat s 6 3 ≤ _; omega)
    have q4 : wrap64 n4 = dat s 9 2 := by rw [u4]; exact wrap64_in _ (by show _ ≤ dat s 9 2; omega) (by show dat s 9 2 ≤ _; omega)
    have q5 : wrap64 n5 = dat s 11 4 := by rw [u5]; exact wrap64_in _ (by show _ ≤ dat s 11 4; omega) (by show dat s 11 4 ≤ _; omega)
    have q6 : wrap64 n6 = dat s 15 1 := by rw [u6]; exact wrap64_in _ (by show _ ≤ dat s 15 1; omega) (by show dat s 15 1 ≤ _; omega)
    have q7 : wrap64 n7 = dat s 16 4 := by rw [u7]; exact wrap64_in _ (by show _ ≤ dat s 16 4; omega) (by show dat s 16 4 ≤ _; omega)
    have q8 : wrap64 n8 = dat s 20 3 := by rw [u8]; exact wrap64_in _ (by show _ ≤ dat s 20 3; omega) (by show dat s 20 3 ≤ _; omega)
    have q9 : wrap64 n9 = dat s 23 1 := by rw [u9]; exact wrap64_in _ (by show _ ≤ dat s 23 1; omega) (by show dat s 23 1 ≤ _; omega)
    have q9' : wrap64 n9 = bt s 23 := by rw [q9, dat_one]; rfl
    show (if (false : Bool) = false then (write_cap.f 40 id (wrap64 n1) (wrap64 n2) (wrap64 n3) (wrap64 n4) (wrap64 n5) (wrap64 n6) (wrap64 n7) (wrap64 n8) (wrap64 n9 == 1)).bind fun p => if p.2 = 0 ∧ p.1 = s then some (id, wrap64 n1, wrap64 n2, wrap64 n3, wrap64 n4, wrap64 n5, wrap64 n6, wrap64 n7, wrap64 n8, (wrap64 n9 == 1), 0) else some (0, 0, 0, 0, 0, 0, 0, 0, 0, false, 2) else some (0, 0, 0, 0, 0, 0, 0, 0, 0, false, 2)) = _
    rw [if_pos rfl, q1, q2, q3, q4, q5, q6, q7, q8, q9', cwrite_eq]
    by_cases g : capOk id (dat s 0 3) (dat s 3 3) (dat s 6 3) (dat s 9 2) (dat s 11 4) (dat s 15 1) (dat s 16 4) (dat s 20 3) = true
    · rw [if_pos g, Option.bind_some]
      by_cases h : s.size = 24 ∧ bt s 23 ≤ 1
      · rw [if_pos ⟨rfl, (capB_is s (by omega)).2 h⟩, if_pos ⟨h.1, h.2, g⟩]
      · rw [if_neg (by rintro ⟨-, e⟩; exact h ((capB_is s (by omega)).1 e)), if_neg (by rintro ⟨h1, h2, -⟩; exact h ⟨h1, h2⟩)]
    · rw [if_neg g, Option.bind_some, if_neg (by rintro ⟨e, -⟩; exact absurd e (by decide)), if_neg (by rintro ⟨-, -, e⟩; exact g e)]
end Go.Proofs.Ytapfidadgafpbaa.Pure
