/- A text is the same as itself, and not as one of another length, nor as one in which a byte is another one. No condition. -/
import Derived.Test.YtakbdknmfaoppaaB4
import Derived.Test.YtakbdknmfaoppaaM0
import Derived.OpenShut
namespace Go.Proofs.Ytakbdknmfaoppaa.Pure
set_option linter.unusedVariables false
set_option linter.unusedSimpArgs false
open Go.RowKit Go.Proofs.Ytakbdknmfaoppaa.R Go.Proofs.Ytakbdknmfaoppaa.M Go.Proofs.YtakbdknmfaoppaaW.PrintWords Go.Proofs.YtakbdknmfaoppaaW.PrintLast Go.Proofs.YtakbdknmfaoppaaW.PrintMore
open Go.Lib (hid)
theorem same_c (a b : ByteArray) (r : Bool) (hr : decide (a = b) = r) (ha : a.size ≤ 140737488351232 * 2) (hb : b.size ≤ 140737488351232 * 2) (W : World) :
    Calls Try.prog 18 #[.string a, .string b] W fun e w' => e = .returned (.bool r) ∧ Below W.heap.size W w' := by
  subst hr
  exact P.mac_Same.calls (a.size + b.size + 1) a b _ W (same_f a b _ ha hb (Nat.le_refl _))
/-- One byte is another one. -/
theorem stored_byte (s : ByteArray) (J : Nat) (h : J < s.size) : ∃ c : UInt8, ((c.toNat : Nat) : Int) = (((s[J]'h).toNat : Int) + 1) % 256 ∧ s ≠ ⟨(s.data.toList.set J c).toArray⟩ := by
  have hl := (s[J]'h).toNat_lt
  refine ⟨UInt8.ofNat (((s[J]'h).toNat + 1) % 256), ?_, ?_⟩
  · rw [UInt8.toNat_ofNat']
    omega
  · intro e
    have h1 : J < s.data.toList.length := by simpa using h
    have e2 : s.data.toList[J]? = (s.data.toList.set J (UInt8.ofNat (((s[J]'h).toNat + 1) % 256)))[J]? := by
      have := congrArg (fun b : ByteArray => b.data.toList[J]?) e
      simpa using this
    rw [List.getElem?_set_self h1, List.getElem?_eq_getElem h1] at e2
    have e3 := congrArg UInt8.toNat (Option.some.inj e2)
    rw [UInt8.toNat_ofNat'] at e3
    have e4 : (s.data.toList[J]'h1).toNat = (s[J]'h).toNat := rfl
    omega
theorem app_ne (s m : ByteArray) (h : m.size ≠ 0) : s ≠ s ++ m := by
  intro e
  have := congrArg ByteArray.size e
  rw [ByteArray.size_append] at this
  omega
set_option maxRecDepth 100000 in
set_option maxHeartbeats 2000000 in
theorem same_ee (s more : ByteArray) (n : Int) (w : World) (hs : s.toList = []) (hs0 : s.size = 0) (hm : more.toList = []) (hm0 : s ++ more = s) (hm1 : more.size = 0) (hmz : more.size ≤ 140737488351232) :
    Calls Try.prog 7 #[.string s, .int .i64 n, .string more] w fun e w' => e = .returned (.bool true) ∧ Below w.heap.size w w' := by
  have C1 := hid (fun W => same_c s s true (by simp) (by omega) (by omega) W)
  have C2 := hid (fun W => same_c s (s ++ more) true (by rw [hm0]; simp) (by omega) (by rw [hm0]; omega) W)
  have C3 := hid (fun W => same_c (s ++ more) s true (by rw [hm0]; simp) (by rw [hm0]; omega) (by omega) W)
  have hq : (9223372036854775807 < s.size + more.size) = False := eq_false (by omega)
  replace hm0 := hid hm0
  replace hm1 := hid hm1
  replace hs0 := hid hs0
  go_enter Try.func7, Try.ntmps7
  go_wp2_with fail
  refine (bailiwicklaw04_examples.calls 2001 true w (exm_eq 2001 (by omega))).mono ?_
  rintro e w1 ⟨rfl, hb1⟩
  replace hb1 := hid hb1
  go_wp2_with fail
  refine (C1.out _).mono ?_
  rintro e w2 ⟨rfl, hb2⟩
  replace hb2 := hid hb2
  go_wp2_with fail
  refine (C2.out _).mono ?_
  rintro e w3 ⟨rfl, hb3⟩
  replace hb3 := hid hb3
  go_wp2_with fail
  refine (C3.out _).mono ?_
  rintro e w4 ⟨rfl, hb4⟩
  replace hb4 := hid hb4
  go_wp2_with fail
  go_ret
  exact ⟨rfl, next (next (next hb1.out hb2.out) hb3.out) hb4.out⟩
set_option maxRecDepth 100000 in
set_option maxHeartbeats 2000000 in
theorem same_en (s more : ByteArray) (n : Int) (w : World) (hs : s.toList = []) (hs0 : s.size = 0) (hm : more.toList ≠ []) (hm1 : more.size ≠ 0) (hmz : more.size ≤ 140737488351232) :
    Calls Try.prog 7 #[.string s, .int .i64 n, .string more] w fun e w' => e = .returned (.bool true) ∧ Below w.heap.size w w' := by
  have C1 := hid (fun W => same_c s s true (by simp) (by omega) (by omega) W)
  have C2 := hid (fun W => same_c s (s ++ more) false (decide_eq_false (app_ne s more hm1)) (by omega) (by rw [ByteArray.size_append]; omega) W)
  have C3 := hid (fun W => same_c (s ++ more) s false (decide_eq_false (fun e => app_ne s more hm1 e.symm)) (by rw [ByteArray.size_append]; omega) (by omega) W)
  have hq : (9223372036854775807 < s.size + more.size) = False := eq_false (by omega)
  have hl2 : (!more.toList.isEmpty) = true := by simp [hm]
  have hl3 : more.toList.isEmpty = false := by simp [hm]
  replace hm1 := hid hm1
  replace hs0 := hid hs0
  go_enter Try.func7, Try.ntmps7
  go_wp2_with fail
  refine (bailiwicklaw04_examples.calls 2001 true w (exm_eq 2001 (by omega))).mono ?_
  rintro e w1 ⟨rfl, hb1⟩
  replace hb1 := hid hb1
  go_wp2_with fail
  refine (C1.out _).mono ?_
  rintro e w2 ⟨rfl, hb2⟩
  replace hb2 := hid hb2
  go_wp2_with fail
  refine (C2.out _).mono ?_
  rintro e w3 ⟨rfl, hb3⟩
  replace hb3 := hid hb3
  go_wp2_with fail
  refine (C3.out _).mono ?_
  rintro e w4 ⟨rfl, hb4⟩
  replace hb4 := hid hb4
  go_wp2_with fail
  go_ret
  exact ⟨rfl, next (next (next hb1.out hb2.out) hb3.out) hb4.out⟩
set_option maxRecDepth 100000 in
set_option maxHeartbeats 2000000 in
theorem same_ne_p (s more : ByteArray) (n : Int) (w : World) (hs : s.toList ≠ []) (hs0 : 0 < s.size) (hsz : s.size ≤ 140737488351232) (hm : more.toList = []) (hm0 : s ++ more = s) (hm1 : more.size = 0) (hmz : more.size ≤ 140737488351232) (n0 : 0 ≤ n) (n1 : n ≤ 9223372036854775807) :
    Calls Try.prog 7 #[.string s, .int .i64 n, .string more] w fun e w' => e = .returned (.bool true) ∧ Below w.heap.size w w' := by
  have C1 := hid (fun W => same_c s s true (by simp) (by omega) (by omega) W)
  have C2 := hid (fun W => same_c s (s ++ more) true (by rw [hm0]; simp) (by omega) (by rw [hm0]; omega) W)
  have C3 := hid (fun W => same_c (s ++ more) s true (by rw [hm0]; simp) (by rw [hm0]; omega) (by omega) W)
  have hq : (9223372036854775807 < s.size + more.size) = False := eq_false (by omega)
  replace hm0 := hid hm0
  replace hm1 := hid hm1
  have hk2 : (!s.toList.isEmpty) = true := by simp [hs]
  have hk3 : s.toList.isEmpty = false := by simp [hs]
  have hz1 : ((s.size : Int) = 0) = False := eq_false (by omega)
  have hz2 : ((s.size : Int) == 0) = false := beq_eq_false_iff_ne.mpr (by omega)
  obtain ⟨J, hJ, hJ2⟩ : ∃ J : Nat, n % (s.size : Int) = (J : Int) ∧ J < s.size := by
    have h1 := Int.emod_nonneg n (b := (s.size : Int)) (by omega)
    have h2 := Int.emod_lt_of_pos n (b := (s.size : Int)) (by omega)
    obtain ⟨q, hq⟩ : ∃ q, n % (s.size : Int) = q := ⟨_, rfl⟩
    rw [hq] at h1 h2 ⊢
    exact ⟨q.toNat, by omega, by omega⟩
  obtain ⟨c, hc1, hc2⟩ := stored_byte s J hJ2
  have hc1 : ((c.toNat : Nat) : Int) = (((s.data[J]'hJ2).toNat : Int) + 1) % 256 := hc1
  have hsl : (⟨(s.data.toList.set J c).toArray⟩ : ByteArray).size = s.size := by
    show (s.data.toList.set J c).toArray.size = _
    rw [List.size_toArray, List.length_set]
    simp
  have C4 := hid (fun W => same_c s ⟨(s.data.toList.set J c).toArray⟩ false (decide_eq_false hc2) (by omega) (by omega) W)
  have C5 := hid (fun W => same_c ⟨(s.data.toList.set J c).toArray⟩ s false (decide_eq_false (fun e => hc2 e.symm)) (by omega) (by omega) W)
  have hJ3 : (J : Int) < (s.size : Int) := by omega
  have hJ0 : (0 : Int) ≤ (J : Int) := by omega
  replace hsl := hid hsl
  clear hc2
  go_enter Try.func7, Try.ntmps7
  go_wp2_with fail
  refine (bailiwicklaw04_examples.calls 2001 true w (exm_eq 2001 (by omega))).mono ?_
  rintro e w1 ⟨rfl, hb1⟩
  replace hb1 := hid hb1
  go_wp2_with fail
  refine (C1.out _).mono ?_
  rintro e w2 ⟨rfl, hb2⟩
  replace hb2 := hid hb2
  go_wp2_with fail
  refine (C2.out _).mono ?_
  rintro e w3 ⟨rfl, hb3⟩
  replace hb3 := hid hb3
  go_wp2_with fail
  refine (C3.out _).mono ?_
  rintro e w4 ⟨rfl, hb4⟩
  replace hb4 := hid hb4
  have hcv := Lib.run_convert_string_bytes (P := Try.prog) w4 9 26 5 s Try.underlying9 Try.underlying26 (by kernel_rfl)
  have hmb := MB.new w4 5 s
  have hcell := hmb.cell J (by rw [data_length]; exact hJ2)
  have hfree := hmb.free J (by rw [data_length]; exact hJ2)
  have hm2 := hmb.set_ J c
  have hlen : (s.data.toList.set J c).length = s.size := by rw [List.length_set, data_length]
  have hcb := hm2.str (P := Try.prog) (src := 26) (dst := 9) Try.underlying26 (by kernel_rfl) (by kernel_rfl) (grownCap w4 s.size 0 5)
  rw [hlen, hc1] at hcb
  have hb5 := below_bytes w4 5 s
  have hb6 := hid (hb5.setCell (p := ⟨w4.heap.size, J, none⟩) (Nat.le_refl _) (.int .u8 ((((s.data[J]'hJ2).toNat : Int) + 1) % 256)))
  have HM2 := hid (And.intro hm2 hlen)
  have HC1 := hid hc1
  clear hmb hm2 hb5 hlen hc1
  go_wp2_with fail
  refine (C4.out _).mono ?_
  rintro e w7 ⟨rfl, hb7⟩
  have hm3 := HM2.out.1
  rw [HC1.out] at hm3
  have hm4 := hm3.below hb7
  have hcb2 := hm4.str (P := Try.prog) (src := 26) (dst := 9) Try.underlying26 (by kernel_rfl) (by kernel_rfl) (grownCap w4 s.size 0 5)
  rw [HM2.out.2] at hcb2
  replace hb7 := hid hb7
  clear hm3 hm4 hcb hcell hfree hcv
  go_wp2_with fail
  refine (C5.out _).mono ?_
  rintro e w8 ⟨rfl, hb8⟩
  replace hb8 := hid hb8
  go_wp2_with fail
  go_ret
  exact ⟨rfl, next (next (next (next (next (next hb1.out hb2.out) hb3.out) hb4.out) hb6.out) hb7.out) hb8.out⟩
set_option maxRecDepth 100000 in
set_option maxHeartbeats 2000000 in
theorem same_nn_p (s more : ByteArray) (n : Int) (w : World) (hs : s.toList ≠ []) (hs0 : 0 < s.size) (hsz : s.size ≤ 140737488351232) (hm : more.toList ≠ []) (hm1 : more.size ≠ 0) (hmz : more.size ≤ 140737488351232) (n0 : 0 ≤ n) (n1 : n ≤ 9223372036854775807) :
    Calls Try.prog 7 #[.string s, .int .i64 n, .string more] w fun e w' => e = .returned (.bool true) ∧ Below w.heap.size w w' := by
  have C1 := hid (fun W => same_c s s true (by simp) (by omega) (by omega) W)
  have C2 := hid (fun W => same_c s (s ++ more) false (decide_eq_false (app_ne s more hm1)) (by omega) (by rw [ByteArray.size_append]; omega) W)
  have C3 := hid (fun W => same_c (s ++ more) s false (decide_eq_false (fun e => app_ne s more hm1 e.symm)) (by rw [ByteArray.size_append]; omega) (by omega) W)
  have hq : (9223372036854775807 < s.size + more.size) = False := eq_false (by omega)
  have hl2 : (!more.toList.isEmpty) = true := by simp [hm]
  have hl3 : more.toList.isEmpty = false := by simp [hm]
  replace hm1 := hid hm1
  have hk2 : (!s.toList.isEmpty) = true := by simp [hs]
  have hk3 : s.toList.isEmpty = false := by simp [hs]
  have hz1 : ((s.size : Int) = 0) = False := eq_false (by omega)
  have hz2 : ((s.size : Int) == 0) = false := beq_eq_false_iff_ne.mpr (by omega)
  obtain ⟨J, hJ, hJ2⟩ : ∃ J : Nat, n % (s.size : Int) = (J : Int) ∧ J < s.size := by
    have h1 := Int.emod_nonneg n (b := (s.size : Int)) (by omega)
    have h2 := Int.emod_lt_of_pos n (b := (s.size : Int)) (by omega)
    obtain ⟨q, hq⟩ : ∃ q, n % (s.size : Int) = q := ⟨_, rfl⟩
    rw [hq] at h1 h2 ⊢
    exact ⟨q.toNat, by omega, by omega⟩
  obtain ⟨c, hc1, hc2⟩ := stored_byte s J hJ2
  have hc1 : ((c.toNat : Nat) : Int) = (((s.data[J]'hJ2).toNat : Int) + 1) % 256 := hc1
  have hsl : (⟨(s.data.toList.set J c).toArray⟩ : ByteArray).size = s.size := by
    show (s.data.toList.set J c).toArray.size = _
    rw [List.size_toArray, List.length_set]
    simp
  have C4 := hid (fun W => same_c s ⟨(s.data.toList.set J c).toArray⟩ false (decide_eq_false hc2) (by omega) (by omega) W)
  have C5 := hid (fun W => same_c ⟨(s.data.toList.set J c).toArray⟩ s false (decide_eq_false (fun e => hc2 e.symm)) (by omega) (by omega) W)
  have hJ3 : (J : Int) < (s.size : Int) := by omega
  have hJ0 : (0 : Int) ≤ (J : Int) := by omega
  replace hsl := hid hsl
  clear hc2
  go_enter Try.func7, Try.ntmps7
  go_wp2_with fail
  refine (bailiwicklaw04_examples.calls 2001 true w (exm_eq 2001 (by omega))).mono ?_
  rintro e w1 ⟨rfl, hb1⟩
  replace hb1 := hid hb1
  go_wp2_with fail
  refine (C1.out _).mono ?_
  rintro e w2 ⟨rfl, hb2⟩
  replace hb2 := hid hb2
  go_wp2_with fail
  refine (C2.out _).mono ?_
  rintro e w3 ⟨rfl, hb3⟩
  replace hb3 := hid hb3
  go_wp2_with fail
  refine (C3.out _).mono ?_
  rintro e w4 ⟨rfl, hb4⟩
  replace hb4 := hid hb4
  have hcv := Lib.run_convert_string_bytes (P := Try.prog) w4 9 26 5 s Try.underlying9 Try.underlying26 (by kernel_rfl)
  have hmb := MB.new w4 5 s
  have hcell := hmb.cell J (by rw [data_length]; exact hJ2)
  have hfree := hmb.free J (by rw [data_length]; exact hJ2)
  have hm2 := hmb.set_ J c
  have hlen : (s.data.toList.set J c).length = s.size := by rw [List.length_set, data_length]
  have hcb := hm2.str (P := Try.prog) (src := 26) (dst := 9) Try.underlying26 (by kernel_rfl) (by kernel_rfl) (grownCap w4 s.size 0 5)
  rw [hlen, hc1] at hcb
  have hb5 := below_bytes w4 5 s
  have hb6 := hid (hb5.setCell (p := ⟨w4.heap.size, J, none⟩) (Nat.le_refl _) (.int .u8 ((((s.data[J]'hJ2).toNat : Int) + 1) % 256)))
  have HM2 := hid (And.intro hm2 hlen)
  have HC1 := hid hc1
  clear hmb hm2 hb5 hlen hc1
  go_wp2_with fail
  refine (C4.out _).mono ?_
  rintro e w7 ⟨rfl, hb7⟩
  have hm3 := HM2.out.1
  rw [HC1.out] at hm3
  have hm4 := hm3.below hb7
  have hcb2 := hm4.str (P := Try.prog) (src := 26) (dst := 9) Try.underlying26 (by kernel_rfl) (by kernel_rfl) (grownCap w4 s.size 0 5)
  rw [HM2.out.2] at hcb2
  replace hb7 := hid hb7
  clear hm3 hm4 hcb hcell hfree hcv
  go_wp2_with fail
  refine (C5.out _).mono ?_
  rintro e w8 ⟨rfl, hb8⟩
  replace hb8 := hid hb8
  go_wp2_with fail
  go_ret
  exact ⟨rfl, next (next (next (next (next (next hb1.out hb2.out) hb3.out) hb4.out) hb6.out) hb7.out) hb8.out⟩
set_option maxRecDepth 100000 in
set_option maxHeartbeats 2000000 in
theorem same_ne_n (s more : ByteArray) (n : Int) (w : World) (hs : s.toList ≠ []) (hs0 : 0 < s.size) (hsz : s.size ≤ 140737488351232) (hm : more.toList = []) (hm0 : s ++ more = s) (hm1 : more.size = 0) (hmz : more.size ≤ 140737488351232) (n0 : n < 0) (n1 : -9223372036854775808 ≤ n) :
    Calls Try.prog 7 #[.string s, .int .i64 n, .string more] w fun e w' => e = .returned (.bool true) ∧ Below w.heap.size w w' := by
  have C1 := hid (fun W => same_c s s true (by simp) (by omega) (by omega) W)
  have C2 := hid (fun W => same_c s (s ++ more) true (by rw [hm0]; simp) (by omega) (by rw [hm0]; omega) W)
  have C3 := hid (fun W => same_c (s ++ more) s true (by rw [hm0]; simp) (by rw [hm0]; omega) (by omega) W)
  have hq : (9223372036854775807 < s.size + more.size) = False := eq_false (by omega)
  replace hm0 := hid hm0
  replace hm1 := hid hm1
  have hk2 : (!s.toList.isEmpty) = true := by simp [hs]
  have hk3 : s.toList.isEmpty = false := by simp [hs]
  have hz1 : ((s.size : Int) = 0) = False := eq_false (by omega)
  have hz2 : ((s.size : Int) == 0) = false := beq_eq_false_iff_ne.mpr (by omega)
  obtain ⟨J, hJ, hJ2, hJ4⟩ : ∃ J : Nat, -((n + 1).tmod (s.size : Int)) = (J : Int) ∧ J < s.size ∧ (-(n + 1)) % (s.size : Int) = (J : Int) := by
    obtain ⟨m, hm⟩ := Int.eq_ofNat_of_zero_le (show 0 ≤ -(n + 1) by omega)
    refine ⟨m % s.size, ?_, Nat.mod_lt _ hs0, ?_⟩
    · rw [show n + 1 = -(m : Int) by omega, Int.neg_tmod, Int.neg_neg]
      rfl
    · rw [hm]
      rfl
  obtain ⟨c, hc1, hc2⟩ := stored_byte s J hJ2
  have hc1 : ((c.toNat : Nat) : Int) = (((s.data[J]'hJ2).toNat : Int) + 1) % 256 := hc1
  have hsl : (⟨(s.data.toList.set J c).toArray⟩ : ByteArray).size = s.size := by
    show (s.data.toList.set J c).toArray.size = _
    rw [List.size_toArray, List.length_set]
    simp
  have C4 := hid (fun W => same_c s ⟨(s.data.toList.set J c).toArray⟩ false (decide_eq_false hc2) (by omega) (by omega) W)
  have C5 := hid (fun W => same_c ⟨(s.data.toList.set J c).toArray⟩ s false (decide_eq_false (fun e => hc2 e.symm)) (by omega) (by omega) W)
  have hJ3 : (J : Int) < (s.size : Int) := by omega
  have hJ0 : (0 : Int) ≤ (J : Int) := by omega
  replace hsl := hid hsl
  clear hc2
  go_enter Try.func7, Try.ntmps7
  go_wp2_with fail
  refine (bailiwicklaw04_examples.calls 2001 true w (exm_eq 2001 (by omega))).mono ?_
  rintro e w1 ⟨rfl, hb1⟩
  replace hb1 := hid hb1
  go_wp2_with fail
  refine (C1.out _).mono ?_
  rintro e w2 ⟨rfl, hb2⟩
  replace hb2 := hid hb2
  go_wp2_with fail
  refine (C2.out _).mono ?_
  rintro e w3 ⟨rfl, hb3⟩
  replace hb3 := hid hb3
  go_wp2_with fail
  refine (C3.out _).mono ?_
  rintro e w4 ⟨rfl, hb4⟩
  replace hb4 := hid hb4
  have hcv := Lib.run_convert_string_bytes (P := Try.prog) w4 9 26 5 s Try.underlying9 Try.underlying26 (by kernel_rfl)
  have hmb := MB.new w4 5 s
  have hcell := hmb.cell J (by rw [data_length]; exact hJ2)
  have hfree := hmb.free J (by rw [data_length]; exact hJ2)
  have hm2 := hmb.set_ J c
  have hlen : (s.data.toList.set J c).length = s.size := by rw [List.length_set, data_length]
  have hcb := hm2.str (P := Try.prog) (src := 26) (dst := 9) Try.underlying26 (by kernel_rfl) (by kernel_rfl) (grownCap w4 s.size 0 5)
  rw [hlen, hc1] at hcb
  have hb5 := below_bytes w4 5 s
  have hb6 := hid (hb5.setCell (p := ⟨w4.heap.size, J, none⟩) (Nat.le_refl _) (.int .u8 ((((s.data[J]'hJ2).toNat : Int) + 1) % 256)))
  have HM2 := hid (And.intro hm2 hlen)
  have HC1 := hid hc1
  clear hmb hm2 hb5 hlen hc1
  go_wp2_with fail
  refine (C4.out _).mono ?_
  rintro e w7 ⟨rfl, hb7⟩
  have hm3 := HM2.out.1
  rw [HC1.out] at hm3
  have hm4 := hm3.below hb7
  have hcb2 := hm4.str (P := Try.prog) (src := 26) (dst := 9) Try.underlying26 (by kernel_rfl) (by kernel_rfl) (grownCap w4 s.size 0 5)
  rw [HM2.out.2] at hcb2
  replace hb7 := hid hb7
  clear hm3 hm4 hcb hcell hfree hcv
  go_wp2_with fail
  refine (C5.out _).mono ?_
  rintro e w8 ⟨rfl, hb8⟩
  replace hb8 := hid hb8
  go_wp2_with fail
  go_ret
  exact ⟨rfl, next (next (next (next (next (next hb1.out hb2.out) hb3.out) hb4.out) hb6.out) hb7.out) hb8.out⟩
set_option maxRecDepth 100000 in
set_option maxHeartbeats 2000000 in
theorem same_nn_n (s more : ByteArray) (n : Int) (w : World) (hs : s.toList ≠ []) (hs0 : 0 < s.size) (hsz : s.size ≤ 140737488351232) (hm : more.toList ≠ []) (hm1 : more.size ≠ 0) (hmz : more.size ≤ 140737488351232) (n0 : n < 0) (n1 : -9223372036854775808 ≤ n) :
    Calls Try.prog 7 #[.string s, .int .i64 n, .string more] w fun e w' => e = .returned (.bool true) ∧ Below w.heap.size w w' := by
  have C1 := hid (fun W => same_c s s true (by simp) (by omega) (by omega) W)
  have C2 := hid (fun W => same_c s (s ++ more) false (decide_eq_false (app_ne s more hm1)) (by omega) (by rw [ByteArray.size_append]; omega) W)
  have C3 := hid (fun W => same_c (s ++ more) s false (decide_eq_false (fun e => app_ne s more hm1 e.symm)) (by rw [ByteArray.size_append]; omega) (by omega) W)
  have hq : (9223372036854775807 < s.size + more.size) = False := eq_false (by omega)
  have hl2 : (!more.toList.isEmpty) = true := by simp [hm]
  have hl3 : more.toList.isEmpty = false := by simp [hm]
  replace hm1 := hid hm1
  have hk2 : (!s.toList.isEmpty) = true := by simp [hs]
  have hk3 : s.toList.isEmpty = false := by simp [hs]
  have hz1 : ((s.size : Int) = 0) = False := eq_false (by omega)
  have hz2 : ((s.size : Int) == 0) = false := beq_eq_false_iff_ne.mpr (by omega)
  obtain ⟨J, hJ, hJ2, hJ4⟩ : ∃ J : Nat, -((n + 1).tmod (s.size : Int)) = (J : Int) ∧ J < s.size ∧ (-(n + 1)) % (s.size : Int) = (J : Int) := by
    obtain ⟨m, hm⟩ := Int.eq_ofNat_of_zero_le (show 0 ≤ -(n + 1) by omega)
    refine ⟨m % s.size, ?_, Nat.mod_lt _ hs0, ?_⟩
    · rw [show n + 1 = -(m : Int) by omega, Int.neg_tmod, Int.neg_neg]
      rfl
    · rw [hm]
      rfl
  obtain ⟨c, hc1, hc2⟩ := stored_byte s J hJ2
  have hc1 : ((c.toNat : Nat) : Int) = (((s.data[J]'hJ2).toNat : Int) + 1) % 256 := hc1
  have hsl : (⟨(s.data.toList.set J c).toArray⟩ : ByteArray).size = s.size := by
    show (s.data.toList.set J c).toArray.size = _
    rw [List.size_toArray, List.length_set]
    simp
  have C4 := hid (fun W => same_c s ⟨(s.data.toList.set J c).toArray⟩ false (decide_eq_false hc2) (by omega) (by omega) W)
  have C5 := hid (fun W => same_c ⟨(s.data.toList.set J c).toArray⟩ s false (decide_eq_false (fun e => hc2 e.symm)) (by omega) (by omega) W)
  have hJ3 : (J : Int) < (s.size : Int) := by omega
  have hJ0 : (0 : Int) ≤ (J : Int) := by omega
  replace hsl := hid hsl
  clear hc2
  go_enter Try.func7, Try.ntmps7
  go_wp2_with fail
  refine (bailiwicklaw04_examples.calls 2001 true w (exm_eq 2001 (by omega))).mono ?_
  rintro e w1 ⟨rfl, hb1⟩
  replace hb1 := hid hb1
  go_wp2_with fail
  refine (C1.out _).mono ?_
  rintro e w2 ⟨rfl, hb2⟩
  replace hb2 := hid hb2
  go_wp2_with fail
  refine (C2.out _).mono ?_
  rintro e w3 ⟨rfl, hb3⟩
  replace hb3 := hid hb3
  go_wp2_with fail
  refine (C3.out _).mono ?_
  rintro e w4 ⟨rfl, hb4⟩
  replace hb4 := hid hb4
  have hcv := Lib.run_convert_string_bytes (P := Try.prog) w4 9 26 5 s Try.underlying9 Try.underlying26 (by kernel_rfl)
  have hmb := MB.new w4 5 s
  have hcell := hmb.cell J (by rw [data_length]; exact hJ2)
  have hfree := hmb.free J (by rw [data_length]; exact hJ2)
  have hm2 := hmb.set_ J c
  have hlen : (s.data.toList.set J c).length = s.size := by rw [List.length_set, data_length]
  have hcb := hm2.str (P := Try.prog) (src := 26) (dst := 9) Try.underlying26 (by kernel_rfl) (by kernel_rfl) (grownCap w4 s.size 0 5)
  rw [hlen, hc1] at hcb
  have hb5 := below_bytes w4 5 s
  have hb6 := hid (hb5.setCell (p := ⟨w4.heap.size, J, none⟩) (Nat.le_refl _) (.int .u8 ((((s.data[J]'hJ2).toNat : Int) + 1) % 256)))
  have HM2 := hid (And.intro hm2 hlen)
  have HC1 := hid hc1
  clear hmb hm2 hb5 hlen hc1
  go_wp2_with fail
  refine (C4.out _).mono ?_
  rintro e w7 ⟨rfl, hb7⟩
  have hm3 := HM2.out.1
  rw [HC1.out] at hm3
  have hm4 := hm3.below hb7
  have hcb2 := hm4.str (P := Try.prog) (src := 26) (dst := 9) Try.underlying26 (by kernel_rfl) (by kernel_rfl) (grownCap w4 s.size 0 5)
  rw [HM2.out.2] at hcb2
  replace hb7 := hid hb7
  clear hm3 hm4 hcb hcell hfree hcv
  go_wp2_with fail
  refine (C5.out _).mono ?_
  rintro e w8 ⟨rfl, hb8⟩
  replace hb8 := hid hb8
  go_wp2_with fail
  go_ret
  exact ⟨rfl, next (next (next (next (next (next hb1.out hb2.out) hb3.out) hb4.out) hb6.out) hb7.out) hb8.out⟩
theorem nil_of_size (b : ByteArray) (h : b.size = 0) : b.toList = [] := by
  rw [toList_eq]
  exact List.eq_nil_of_length_eq_zero (by rw [data_length]; exact h)
theorem ne_of_size (b : ByteArray) (h : b.size ≠ 0) : b.toList ≠ [] := by
  rw [toList_eq]
  intro e
  apply h
  rw [← data_length, e]
  rfl
theorem app_nil (s m : ByteArray) (h : m.size = 0) : s ++ m = s := by
  apply ByteArray.ext
  rw [ByteArray.data_append]
  have : m.data = #[] := Array.eq_empty_of_size_eq_zero h
  rw [this]
  simp
theorem MacSame_walk (a0 : ByteArray) (a1 : Int) (a2 : ByteArray) (w : World) (w0 : a0.size ≤ 140737488351232) (w1 : (Lit.int .i64 a1).wf = true) (w2 : a2.size ≤ 140737488351232) :
    Calls Try.prog 7 #[.string a0, .int .i64 a1, .string a2] w fun e w' => e = .returned (.bool true) ∧ Below w.heap.size w w' := by
  have hn : -9223372036854775808 ≤ a1 ∧ a1 ≤ 9223372036854775807 := by simp [Lit.wf, IntKind.min, IntKind.max, IntKind.signed, IntKind.bits] at w1; omega
  by_cases hs : a0.size = 0
  · by_cases hm : a2.size = 0
    · exact same_ee a0 a2 a1 w (nil_of_size a0 hs) hs (nil_of_size a2 hm) (app_nil a0 a2 hm) hm w2
    · exact same_en a0 a2 a1 w (nil_of_size a0 hs) hs (ne_of_size a2 hm) hm w2
  · by_cases hm : a2.size = 0
    · by_cases h : a1 < 0
      · exact same_ne_n a0 a2 a1 w (ne_of_size a0 hs) (by omega) w0 (nil_of_size a2 hm) (app_nil a0 a2 hm) hm w2 h hn.1
      · exact same_ne_p a0 a2 a1 w (ne_of_size a0 hs) (by omega) w0 (nil_of_size a2 hm) (app_nil a0 a2 hm) hm w2 (by omega) hn.2
    · by_cases h : a1 < 0
      · exact same_nn_n a0 a2 a1 w (ne_of_size a0 hs) (by omega) w0 (ne_of_size a2 hm) hm w2 h hn.1
      · exact same_nn_p a0 a2 a1 w (ne_of_size a0 hs) (by omega) w0 (ne_of_size a2 hm) hm w2 (by omega) hn.2
end Go.Proofs.Ytakbdknmfaoppaa.Pure
