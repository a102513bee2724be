/- The sum of two texts, one behind the other, is made of theirs; that of nothing is 1; a byte 0 more leaves the lower half as it is. No condition. -/
import Derived.Test.YtnffhdlkkfphbaaB0
import Derived.OpenShut
namespace Go.Proofs.Ytnffhdlkkfphbaa.Pure
set_option linter.unusedVariables false
set_option linter.unusedSimpArgs false
open Go.RowKit Go.Proofs.Ytnffhdlkkfphbaa.G Go.Proofs.YtnffhdlkkfphbaaW.PrintWords Go.Proofs.YtnffhdlkkfphbaaW.PrintLast
open Go.Lib (hid)

theorem sums_tail (s t : ByteArray) (hs : s.size ≤ 500) (ht : t.size ≤ 500) : True := trivial
set_option maxRecDepth 100000 in
set_option maxHeartbeats 1000000 in
theorem PageSums_walk (a0 a1 : ByteArray) (w : World) (w0 : a0.size ≤ 140737488351232) (w1 : a1.size ≤ 140737488351232) :
    Calls Try.prog 6 #[.string a0, .string a1] w fun e w' => e = .returned (.bool true) ∧ Below w.heap.size w w' := by
  go_enter Try.func6, Try.ntmps6
  go_wp2_with fail
  refine (bailiwicklaw07_examples.calls 10 true w ex_eq).mono ?_
  rintro e w' ⟨rfl, hb⟩
  go_wp2_with fail
  case inl.inl =>
    have h0 : (a0.extract 0 500).size ≤ 500 := by simp only [ByteArray.size_extract]; omega
    generalize a0.extract 0 500 = s at *
    have h1 : (a1.extract 0 500).size ≤ 500 := by simp only [ByteArray.size_extract]; omega
    generalize a1.extract 0 500 = u at *
    have hx := adl_lt s.data.toList
    have hy := adl_lt u.data.toList
    have hz := adl_lt (s ++ u).data.toList
    have hq := adl_lt (s ++ ⟨#[0]⟩).data.toList
    have ez := adl_append s.data.toList u.data.toList
    have eq := adl_zero s.data.toList
    have e1 : (s ++ u).data.toList = s.data.toList ++ u.data.toList := by simp [ByteArray.data_append]
    have e2 : (s ++ ⟨#[0]⟩).data.toList = s.data.toList ++ [0] := by simp [ByteArray.data_append]
    have S1 := hid (fun W => page_Sum.same s W (by omega))
    have S2 := hid (fun W => page_Sum.same u W (by omega))
    have S3 := hid (fun W => page_Sum.same (s ++ u) W (by simp; omega))
    have S4 := hid (fun W => page_Sum.same (s ++ ⟨#[0]⟩) W (by rw [ByteArray.size_append]; show _ + 1 ≤ _; omega))
    have S5 := hid (fun W => page_Sum.same ⟨#[]⟩ W (by decide))
    rw [show adl (ByteArray.mk #[]).data.toList = 1 from rfl] at S5
    rw [e1] at S3 hz
    rw [e2] at S4 hq
    have el : u.data.toList.length = u.size := rfl
    rw [el] at ez
    clear e1 e2 el
    generalize adl (s.data.toList ++ u.data.toList) = z at *
    generalize adl (s.data.toList ++ [0]) = q at *
    generalize adl s.data.toList = x at *
    generalize adl u.data.toList = y at *
    obtain ⟨M, hM⟩ : ∃ M : Nat, u.size * (x % 65536 + 65520) = M := ⟨_, rfl⟩
    have hMb : M ≤ 65528000 := by rw [← hM]; exact Nat.le_trans (Nat.mul_le_mul h1 (show x % 65536 + 65520 ≤ 131056 by omega)) (by decide)
    have hM2 : (u.size : Int) * ((x : Int) % 65536 + 65520) = (M : Int) := by rw [← hM]; simp
    rw [hM] at ez
    clear hM
    have z1 : z ≤ (x / 65536 + y / 65536 + M) % 65521 * 65536 + (x % 65536 + y % 65536 + 65520) % 65521 := by omega
    have z2 : (x / 65536 + y / 65536 + M) % 65521 * 65536 + (x % 65536 + y % 65536 + 65520) % 65521 ≤ z := by omega
    have q1 : q % 65536 ≤ x % 65536 := by omega
    have q2 : x % 65536 ≤ q % 65536 := by omega
    clear ez eq
    refine (S1 _).mono ?_
    rintro e w2 ⟨rfl, rfl⟩
    go_wp2_with fail
    refine (S2 _).mono ?_
    rintro e w2 ⟨rfl, rfl⟩
    go_wp2_with fail
    refine (S3 _).mono ?_
    rintro e w2 ⟨rfl, rfl⟩
    go_wp2_with fail
    refine (S4 _).mono ?_
    rintro e w2 ⟨rfl, rfl⟩
    have hzz : ((z : Int) == ((x : Int) / 65536 + (y : Int) / 65536 + (M : Int)) % 65521 * 65536 + ((x : Int) % 65536 + (y : Int) % 65536 + 65520) % 65521) = true := beq_iff_eq.2 (by omega)
    have hqq : ((q : Int) % 65536 == (x : Int) % 65536) = true := beq_iff_eq.2 (by omega)
    clear z1 z2 q1 q2
    go_wp2_with fail
    refine (S5 _).mono ?_
    rintro e w2 ⟨rfl, rfl⟩
    go_wp2_with fail
    go_ret
    exact ⟨rfl, hb⟩
  case inl.inr =>
    have h0 : (a0.extract 0 500).size ≤ 500 := by simp only [ByteArray.size_extract]; omega
    generalize a0.extract 0 500 = s at *
    have h1 : a1.size ≤ 500 := by omega
    have hx := adl_lt s.data.toList
    have hy := adl_lt a1.data.toList
    have hz := adl_lt (s ++ a1).data.toList
    have hq := adl_lt (s ++ ⟨#[0]⟩).data.toList
    have ez := adl_append s.data.toList a1.data.toList
    have eq := adl_zero s.data.toList
    have e1 : (s ++ a1).data.toList = s.data.toList ++ a1.data.toList := by simp [ByteArray.data_append]
    have e2 : (s ++ ⟨#[0]⟩).data.toList = s.data.toList ++ [0] := by simp [ByteArray.data_append]
    have S1 := hid (fun W => page_Sum.same s W (by omega))
    have S2 := hid (fun W => page_Sum.same a1 W (by omega))
    have S3 := hid (fun W => page_Sum.same (s ++ a1) W (by simp; omega))
    have S4 := hid (fun W => page_Sum.same (s ++ ⟨#[0]⟩) W (by rw [ByteArray.size_append]; show _ + 1 ≤ _; omega))
    have S5 := hid (fun W => page_Sum.same ⟨#[]⟩ W (by decide))
    rw [show adl (ByteArray.mk #[]).data.toList = 1 from rfl] at S5
    rw [e1] at S3 hz
    rw [e2] at S4 hq
    have el : a1.data.toList.length = a1.size := rfl
    rw [el] at ez
    clear e1 e2 el
    generalize adl (s.data.toList ++ a1.data.toList) = z at *
    generalize adl (s.data.toList ++ [0]) = q at *
    generalize adl s.data.toList = x at *
    generalize adl a1.data.toList = y at *
    obtain ⟨M, hM⟩ : ∃ M : Nat, a1.size * (x % 65536 + 65520) = M := ⟨_, rfl⟩
    have hMb : M ≤ 65528000 := by rw [← hM]; exact Nat.le_trans (Nat.mul_le_mul h1 (show x % 65536 + 65520 ≤ 131056 by omega)) (by decide)
    have hM2 : (a1.size : Int) * ((x : Int) % 65536 + 65520) = (M : Int) := by rw [← hM]; simp
    rw [hM] at ez
    clear hM
    have z1 : z ≤ (x / 65536 + y / 65536 + M) % 65521 * 65536 + (x % 65536 + y % 65536 + 65520) % 65521 := by omega
    have z2 : (x / 65536 + y / 65536 + M) % 65521 * 65536 + (x % 65536 + y % 65536 + 65520) % 65521 ≤ z := by omega
    have q1 : q % 65536 ≤ x % 65536 := by omega
    have q2 : x % 65536 ≤ q % 65536 := by omega
    clear ez eq
    refine (S1 _).mono ?_
    rintro e w2 ⟨rfl, rfl⟩
    go_wp2_with fail
    refine (S2 _).mono ?_
    rintro e w2 ⟨rfl, rfl⟩
    go_wp2_with fail
    refine (S3 _).mono ?_
    rintro e w2 ⟨rfl, rfl⟩
    go_wp2_with fail
    refine (S4 _).mono ?_
    rintro e w2 ⟨rfl, rfl⟩
    have hzz : ((z : Int) == ((x : Int) / 65536 + (y : Int) / 65536 + (M : Int)) % 65521 * 65536 + ((x : Int) % 65536 + (y : Int) % 65536 + 65520) % 65521) = true := beq_iff_eq.2 (by omega)
    have hqq : ((q : Int) % 65536 == (x : Int) % 65536) = true := beq_iff_eq.2 (by omega)
    clear z1 z2 q1 q2
    go_wp2_with fail
    refine (S5 _).mono ?_
    rintro e w2 ⟨rfl, rfl⟩
    go_wp2_with fail
    go_ret
    exact ⟨rfl, hb⟩
  case inr.inl =>
    have h0 : a0.size ≤ 500 := by omega
    have h1 : (a1.extract 0 500).size ≤ 500 := by simp only [ByteArray.size_extract]; omega
    generalize a1.extract 0 500 = u at *
    have hx := adl_lt a0.data.toList
    have hy := adl_lt u.data.toList
    have hz := adl_lt (a0 ++ u).data.toList
    have hq := adl_lt (a0 ++ ⟨#[0]⟩).data.toList
    have ez := adl_append a0.data.toList u.data.toList
    have eq := adl_zero a0.data.toList
    have e1 : (a0 ++ u).data.toList = a0.data.toList ++ u.data.toList := by simp [ByteArray.data_append]
    have e2 : (a0 ++ ⟨#[0]⟩).data.toList = a0.data.toList ++ [0] := by simp [ByteArray.data_append]
    have S1 := hid (fun W => page_Sum.same a0 W (by omega))
    have S2 := hid (fun W => page_Sum.same u W (by omega))
    have S3 := hid (fun W => page_Sum.same (a0 ++ u) W (by simp; omega))
    have S4 := hid (fun W => page_Sum.same (a0 ++ ⟨#[0]⟩) W (by rw [ByteArray.size_append]; show _ + 1 ≤ _; omega))
    have S5 := hid (fun W => page_Sum.same ⟨#[]⟩ W (by decide))
    rw [show adl (ByteArray.mk #[]).data.toList = 1 from rfl] at S5
    rw [e1] at S3 hz
    rw [e2] at S4 hq
    have el : u.data.toList.length = u.size := rfl
    rw [el] at ez
    clear e1 e2 el
    generalize adl (a0.data.toList ++ u.data.toList) = z at *
    generalize adl (a0.data.toList ++ [0]) = q at *
    generalize adl a0.data.toList = x at *
    generalize adl u.data.toList = y at *
    obtain ⟨M, hM⟩ : ∃ M : Nat, u.size * (x % 65536 + 65520) = M := ⟨_, rfl⟩
    have hMb : M ≤ 65528000 := by rw [← hM]; exact Nat.le_trans (Nat.mul_le_mul h1 (show x % 65536 + 65520 ≤ 131056 by omega)) (by decide)
    have hM2 : (u.size : Int) * ((x : Int) % 65536 + 65520) = (M : Int) := by rw [← hM]; simp
    rw [hM] at ez
    clear hM
    have z1 : z ≤ (x / 65536 + y / 65536 + M) % 65521 * 65536 + (x % 65536 + y % 65536 + 65520) % 65521 := by omega
    have z2 : (x / 65536 + y / 65536 + M) % 65521 * 65536 + (x % 65536 + y % 65536 + 65520) % 65521 ≤ z := by omega
    have q1 : q % 65536 ≤ x % 65536 := by omega
    have q2 : x % 65536 ≤ q % 65536 := by omega
    clear ez eq
    refine (S1 _).mono ?_
    rintro e w2 ⟨rfl, rfl⟩
    go_wp2_with fail
    refine (S2 _).mono ?_
    rintro e w2 ⟨rfl, rfl⟩
    go_wp2_with fail
    refine (S3 _).mono ?_
    rintro e w2 ⟨rfl, rfl⟩
    go_wp2_with fail
    refine (S4 _).mono ?_
    rintro e w2 ⟨rfl, rfl⟩
    have hzz : ((z : Int) == ((x : Int) / 65536 + (y : Int) / 65536 + (M : Int)) % 65521 * 65536 + ((x : Int) % 65536 + (y : Int) % 65536 + 65520) % 65521) = true := beq_iff_eq.2 (by omega)
    have hqq : ((q : Int) % 65536 == (x : Int) % 65536) = true := beq_iff_eq.2 (by omega)
    clear z1 z2 q1 q2
    go_wp2_with fail
    refine (S5 _).mono ?_
    rintro e w2 ⟨rfl, rfl⟩
    go_wp2_with fail
    go_ret
    exact ⟨rfl, hb⟩
  case inr.inr =>
    have h0 : a0.size ≤ 500 := by omega
    have h1 : a1.size ≤ 500 := by omega
    have hx := adl_lt a0.data.toList
    have hy := adl_lt a1.data.toList
    have hz := adl_lt (a0 ++ a1).data.toList
    have hq := adl_lt (a0 ++ ⟨#[0]⟩).data.toList
    have ez := adl_append a0.data.toList a1.data.toList
    have eq := adl_zero a0.data.toList
    have e1 : (a0 ++ a1).data.toList = a0.data.toList ++ a1.data.toList := by simp [ByteArray.data_append]
    have e2 : (a0 ++ ⟨#[0]⟩).data.toList = a0.data.toList ++ [0] := by simp [ByteArray.data_append]
    have S1 := hid (fun W => page_Sum.same a0 W (by omega))
    have S2 := hid (fun W => page_Sum.same a1 W (by omega))
    have S3 := hid (fun W => page_Sum.same (a0 ++ a1) W (by simp; omega))
    have S4 := hid (fun W => page_Sum.same (a0 ++ ⟨#[0]⟩) W (by rw [ByteArray.size_append]; show _ + 1 ≤ _; omega))
    have S5 := hid (fun W => page_Sum.same ⟨#[]⟩ W (by decide))
    rw [show adl (ByteArray.mk #[]).data.toList = 1 from rfl] at S5
    rw [e1] at S3 hz
    rw [e2] at S4 hq
    have el : a1.data.toList.length = a1.size := rfl
    rw [el] at ez
    clear e1 e2 el
    generalize adl (a0.data.toList ++ a1.data.toList) = z at *
    generalize adl (a0.data.toList ++ [0]) = q at *
    generalize adl a0.data.toList = x at *
    generalize adl a1.data.toList = y at *
    obtain ⟨M, hM⟩ : ∃ M : Nat, a1.size * (x % 65536 + 65520) = M := ⟨_, rfl⟩
    have hMb : M ≤ 65528000 := by rw [← hM]; exact Nat.le_trans (Nat.mul_le_mul h1 (show x % 65536 + 65520 ≤ 131056 by omega)) (by decide)
    have hM2 : (a1.size : Int) * ((x : Int) % 65536 + 65520) = (M : Int) := by rw [← hM]; simp
    rw [hM] at ez
    clear hM
    have z1 : z ≤ (x / 65536 + y / 65536 + M) % 65521 * 65536 + (x % 65536 + y % 65536 + 65520) % 65521 := by omega
    have z2 : (x / 65536 + y / 65536 + M) % 65521 * 65536 + (x % 65536 + y % 65536 + 65520) % 65521 ≤ z := by omega
    have q1 : q % 65536 ≤ x % 65536 := by omega
    have q2 : x % 65536 ≤ q % 65536 := by omega
    clear ez eq
    refine (S1 _).mono ?_
    rintro e w2 ⟨rfl, rfl⟩
    go_wp2_with fail
    refine (S2 _).mono ?_
    rintro e w2 ⟨rfl, rfl⟩
    go_wp2_with fail
    refine (S3 _).mono ?_
    rintro e w2 ⟨rfl, rfl⟩
    go_wp2_with fail
    refine (S4 _).mono ?_
    rintro e w2 ⟨rfl, rfl⟩
    have hzz : ((z : Int) == ((x : Int) / 65536 + (y : Int) / 65536 + (M : Int)) % 65521 * 65536 + ((x : Int) % 65536 + (y : Int) % 65536 + 65520) % 65521) = true := beq_iff_eq.2 (by omega)
    have hqq : ((q : Int) % 65536 == (x : Int) % 65536) = true := beq_iff_eq.2 (by omega)
    clear z1 z2 q1 q2
    go_wp2_with fail
    refine (S5 _).mono ?_
    rintro e w2 ⟨rfl, rfl⟩
    go_wp2_with fail
    go_ret
    exact ⟨rfl, hb⟩
end Go.Proofs.Ytnffhdlkkfphbaa.Pure
