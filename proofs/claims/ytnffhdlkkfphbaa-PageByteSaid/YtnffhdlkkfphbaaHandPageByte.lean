/- A page in which one byte is another one is none. No condition. -/
import Derived.Test.YtnffhdlkkfphbaaB3
import Derived.Test.YtnffhdlkkfphbaaM0
import Derived.OpenShut
namespace Go.Proofs.Ytnffhdlkkfphbaa.Pure
set_option linter.unusedVariables false
set_option linter.unusedSimpArgs false
open Go.RowKit Go.Proofs.Ytnffhdlkkfphbaa.G Go.Proofs.Ytnffhdlkkfphbaa.M Go.Proofs.YtnffhdlkkfphbaaW.PrintWords Go.Proofs.YtnffhdlkkfphbaaW.PrintLast
open Go.Lib (hid)

/-- The lower half is the sum of the bytes, and one. -/
def total (l : List UInt8) : Nat := (l.map UInt8.toNat).sum
theorem adPair_total : ∀ (l : List UInt8) (p : Nat × Nat), p.1 < 65521 → (l.foldl adStep p).1 = (p.1 + total l) % 65521
  | [], p, h => by simp [total]; omega
  | c :: l, p, h => by
    rw [List.foldl_cons, adPair_total l _ (adStep_lt p c).1]
    simp only [adStep, total, List.map_cons, List.sum_cons]
    omega
theorem total_set : ∀ (l : List UInt8) (j : Nat) (c : UInt8) (h : j < l.length), total (l.set j c) + l[j].toNat = total l + c.toNat
  | b :: l, 0, c, h => by simp [total]; omega
  | b :: l, j + 1, c, h => by
    have := total_set l j c (by simpa using h)
    simp only [total, List.set_cons_succ, List.map_cons, List.sum_cons, List.getElem_cons_succ] at *
    omega
theorem adl_set (l : List UInt8) (j : Nat) (c : UInt8) (h : j < l.length) (hc : c ≠ l[j]) : adl (l.set j c) ≠ adl l := by
  intro he
  have h1 : adl (l.set j c) % 65536 = adl l % 65536 := by rw [he]
  rw [adl_lo, adl_lo] at h1
  unfold adPair at h1
  rw [adPair_total _ _ (by decide), adPair_total _ _ (by decide)] at h1
  have h2 := total_set l j c h
  have h3 : c.toNat ≠ l[j].toNat := fun e => hc (UInt8.toNat_inj.1 e)
  have h4 := c.toNat_lt
  have h5 := l[j].toNat_lt
  omega
/-- One byte of a page is another one: it is none. -/
theorem be4_set (n i : Nat) (c : UInt8) (hn : n < 4294967296) (hi : i < 4) (hc : c.toNat ≠ ((be4 n).getD i 0).toNat) :
    n ≠ (((((be4 n).set i c).getD 0 0).toNat * 256 + (((be4 n).set i c).getD 1 0).toNat) * 256 + (((be4 n).set i c).getD 2 0).toNat) * 256 + (((be4 n).set i c).getD 3 0).toNat := by
  have hcl := c.toNat_lt
  match i, hi with
  | 0, _ => simp only [be4, List.set_cons_zero, List.getD_cons_zero, List.getD_cons_succ, UInt8.toNat_ofNat'] at hc ⊢; omega
  | 1, _ => simp only [be4, List.set_cons_zero, List.set_cons_succ, List.getD_cons_zero, List.getD_cons_succ, UInt8.toNat_ofNat'] at hc ⊢; omega
  | 2, _ => simp only [be4, List.set_cons_zero, List.set_cons_succ, List.getD_cons_zero, List.getD_cons_succ, UInt8.toNat_ofNat'] at hc ⊢; omega
  | 3, _ => simp only [be4, List.set_cons_zero, List.set_cons_succ, List.getD_cons_zero, List.getD_cons_succ, UInt8.toNat_ofNat'] at hc ⊢; omega
theorem openT_byte (kind : Nat) (text : List UInt8) (h3 : text.length ≤ 240) (j : Nat) (hj : j < 256) (c : UInt8) (hc : c ≠ (sealL kind text).getD j 0) :
    openT ⟨((sealL kind text).set j c).toArray⟩ = (0, ⟨#[]⟩, 15) := by
  have hb := bodyL_length kind text h3
  have hl := sealL_length kind text h3
  have ha := adl_lt (bodyL kind text)
  have hx : ((ByteArray.mk ((sealL kind text).set j c).toArray).extract 0 252).data.toList = (bodyL kind text).set j c := by
    rw [ByteArray.data_extract, Array.toList_extract, List.extract_eq_take_drop, List.drop_zero]
    show List.take 252 ((sealL kind text).set j c) = _
    rw [List.take_set]
    unfold sealL
    rw [List.take_append_of_le_length (by omega), List.take_of_length_le (by omega)]
  have key : ∀ i, byteAt ⟨((sealL kind text).set j c).toArray⟩ (252 + i) = (((be4 (adl (bodyL kind text))).set (j - 252) c).getD i 0).toNat ∨ j < 252 := by
    intro i
    by_cases h252 : j < 252
    · exact .inr h252
    · left
      rw [byteAt_mk]
      unfold sealL
      rw [List.set_append_right _ _ (by omega), hb, List.getD_eq_getElem?_getD, List.getD_eq_getElem?_getD, List.getElem?_append_right (by omega), hb, Nat.add_sub_cancel_left]
  have key2 : ∀ i, j < 252 → byteAt ⟨((sealL kind text).set j c).toArray⟩ (252 + i) = ((be4 (adl (bodyL kind text))).getD i 0).toNat := by
    intro i h252
    rw [byteAt_mk]
    unfold sealL
    rw [List.set_append_left _ _ (by omega), List.getD_eq_getElem?_getD, List.getD_eq_getElem?_getD, List.getElem?_append_right (by rw [List.length_set]; omega), List.length_set, hb, Nat.add_sub_cancel_left]
  unfold openT
  rw [hx, if_neg]
  intro he
  by_cases h252 : j < 252
  · have hn : n4 ⟨((sealL kind text).set j c).toArray⟩ = adl (bodyL kind text) := by
      have k0 := key2 0 h252
      have k1 := key2 1 h252
      have k2 := key2 2 h252
      have k3 := key2 3 h252
      simp only [be4, List.getD_cons_zero, List.getD_cons_succ, UInt8.toNat_ofNat'] at k0 k1 k2 k3
      unfold n4
      rw [show (252 : Nat) = 252 + 0 from rfl, k0, show (253 : Nat) = 252 + 1 from rfl, k1, show (254 : Nat) = 252 + 2 from rfl, k2, show (255 : Nat) = 252 + 3 from rfl, k3]
      generalize adl (bodyL kind text) = n at ha
      omega
    refine adl_set (bodyL kind text) j c (by omega) ?_ (he.trans hn)
    unfold sealL at hc
    rw [List.getD_eq_getElem?_getD, List.getElem?_append_left (by omega), List.getElem?_eq_getElem (by omega)] at hc
    exact hc
  · have e1 : (bodyL kind text).set j c = bodyL kind text := List.set_eq_of_length_le (by omega)
    rw [e1] at he
    have kk := fun i => (key i).resolve_right h252
    have k0 := kk 0
    have k1 := kk 1
    have k2 := kk 2
    have k3 := kk 3
    have hc2 : c ≠ (be4 (adl (bodyL kind text))).getD (j - 252) 0 := by
      unfold sealL at hc
      rw [List.getD_eq_getElem?_getD, List.getElem?_append_right (by omega), hb, ← List.getD_eq_getElem?_getD] at hc
      exact hc
    have hcn : c.toNat ≠ ((be4 (adl (bodyL kind text))).getD (j - 252) 0).toNat := fun e => hc2 (UInt8.toNat_inj.1 e)
    unfold n4 at he
    rw [show (252 : Nat) = 252 + 0 from rfl, k0, show (253 : Nat) = 252 + 1 from rfl, k1, show (254 : Nat) = 252 + 2 from rfl, k2, show (255 : Nat) = 252 + 3 from rfl, k3] at he
    exact be4_set _ _ c ha (by omega) hcn he
theorem next {w w1 w2 : World} (h : Below w.heap.size w w1) (k : Below w1.heap.size w1 w2) : Below w.heap.size w w2 := below_then h h.size k
/-- The byte that is stored is another one. -/
theorem stored_byte (l : List UInt8) (J : Nat) (hJ : J < l.length) (D : Nat) (h1 : 1 ≤ D) (h2 : D ≤ 255) :
    ∃ c : UInt8, ((l[J].toNat : Int) + (D : Int)) % 256 = ((c.toNat : Nat) : Int) ∧ c ≠ l.getD J 0 := by
  have hl := l[J].toNat_lt
  have e : (UInt8.ofNat (l[J].toNat + D)).toNat = (l[J].toNat + D) % 256 := by rw [UInt8.toNat_ofNat']
  refine ⟨UInt8.ofNat (l[J].toNat + D), by rw [e]; omega, fun h => ?_⟩
  have h3 : (UInt8.ofNat (l[J].toNat + D)).toNat = l[J].toNat := by
    rw [h, List.getD_eq_getElem?_getD, List.getElem?_eq_getElem hJ]
    rfl
  rw [e] at h3
  omega
theorem opened_byte (a0 : Nat) (a1 : ByteArray) (h3 : a1.size ≤ 240) (J : Nat) (hJ : J < 256) (c : UInt8) (hc : c ≠ (sealL a0 a1.data.toList).getD J 0) (W : World) :
    Calls Try.prog 16 #[.string ⟨((sealL a0 a1.data.toList).set J c).toArray⟩] W fun e w' => e = .returned (.tuple #[.int .i64 0, .string ⟨#[]⟩, .int .i64 15]) ∧ Below W.heap.size W w' :=
  page_Open.calls 10 _ _ _ _ W ((popen_eq _ (by rw [size_mk, List.length_set, sealL_length _ _ h3]) 10 (by decide)).trans (congrArg some (openT_byte a0 a1.data.toList h3 J hJ c hc)))
set_option maxRecDepth 100000 in
set_option maxHeartbeats 1000000 in
theorem byte_p0 (a0 : Nat) (a1 : ByteArray) (a2 : Int) (w : World) (h1 : 1 ≤ a0) (h2 : a0 ≤ 15) (h3 : a1.size ≤ 240) (b2 : 0 ≤ a2) (c2 : a2 ≤ 9223372036854775807) :
    Calls Try.prog 5 #[.int .i64 a0, .string a1, .int .i64 a2, .int .u8 0] w fun e w' => e = .returned (.bool true) ∧ Below w.heap.size w w' := by
  have hl := sealL_length a0 a1.data.toList h3
  have hsz : (ByteArray.mk (sealL a0 a1.data.toList).toArray).size = 256 := by rw [size_mk, hl]
  have hsz' : ((ByteArray.mk (sealL a0 a1.data.toList).toArray).size : Int) = 256 := by omega
  have S1 := hid (fun W => page_Seal.yes a0 a1 W h1 h2 h3)
  obtain ⟨J, hJ⟩ : ∃ J : Nat, a2 % 256 = (J : Int) := ⟨(a2 % 256).toNat, by omega⟩
  have hJ2 : J < 256 := by omega
  obtain ⟨c, hc1, hc2⟩ := stored_byte (sealL a0 a1.data.toList) J (by omega) 1 (by omega) (by omega)
  rw [show ((1 : Nat) : Int) = 1 from rfl] at hc1
  have O1 := hid (opened_byte a0 a1 h3 J hJ2 c hc2)
  clear hc2
  go_enter Try.func5, Try.ntmps5
  go_wp2_with fail
  refine (bailiwicklaw07_examples.calls 10 true w ex_eq).mono ?_
  rintro e w1 ⟨rfl, hb1⟩
  go_wp2_with fail
  refine (S1 _).mono ?_
  rintro e w2 ⟨rfl, hb2⟩
  have hcv := Lib.run_convert_string_bytes (P := Try.prog) w2 9 35 5 (ByteArray.mk (sealL a0 a1.data.toList).toArray) Try.underlying9 Try.underlying35 (by kernel_rfl)
  have hmb := MB.new w2 5 (ByteArray.mk (sealL a0 a1.data.toList).toArray)
  have hcell := hmb.cell J (by show J < (sealL a0 a1.data.toList).length; omega)
  have hfree := hmb.free J (by show J < (sealL a0 a1.data.toList).length; omega)
  have hm2 := hmb.set_ J c
  have hcb := hm2.str (P := Try.prog) (src := 35) (dst := 9) Try.underlying35 (by kernel_rfl) (by kernel_rfl) (grownCap w2 256 0 5)
  rw [show ((ByteArray.mk (sealL a0 a1.data.toList).toArray).data.toList.set J c).length = 256 by rw [List.length_set]; exact hl, ← hc1] at hcb
  have hb3 := below_bytes w2 5 (ByteArray.mk (sealL a0 a1.data.toList).toArray)
  have hb4 := hb3.setCell (p := ⟨w2.heap.size, J, none⟩) (Nat.le_refl _) (.int .u8 (((((sealL a0 a1.data.toList)[J]'(by omega)).toNat : Int) + 1) % 256))
  clear hmb hm2 hb3 hc1
  go_wp2_with fail
  refine (O1 _).mono ?_
  rintro e w5 ⟨rfl, hb5⟩
  go_wp2_with fail
  go_ret
  exact ⟨rfl, next (next (next hb1 hb2) hb4) hb5⟩
set_option maxRecDepth 100000 in
set_option maxHeartbeats 1000000 in
theorem byte_pD (a0 : Nat) (a1 : ByteArray) (a2 : Int) (D : Nat) (w : World) (h1 : 1 ≤ a0) (h2 : a0 ≤ 15) (h3 : a1.size ≤ 240) (b2 : 0 ≤ a2) (c2 : a2 ≤ 9223372036854775807) (b3 : 1 ≤ D) (c3 : D ≤ 255) :
    Calls Try.prog 5 #[.int .i64 a0, .string a1, .int .i64 a2, .int .u8 (D : Int)] w fun e w' => e = .returned (.bool true) ∧ Below w.heap.size w w' := by
  have hl := sealL_length a0 a1.data.toList h3
  have hsz : (ByteArray.mk (sealL a0 a1.data.toList).toArray).size = 256 := by rw [size_mk, hl]
  have hsz' : ((ByteArray.mk (sealL a0 a1.data.toList).toArray).size : Int) = 256 := by omega
  have S1 := hid (fun W => page_Seal.yes a0 a1 W h1 h2 h3)
  obtain ⟨J, hJ⟩ : ∃ J : Nat, a2 % 256 = (J : Int) := ⟨(a2 % 256).toNat, by omega⟩
  have hJ2 : J < 256 := by omega
  obtain ⟨c, hc1, hc2⟩ := stored_byte (sealL a0 a1.data.toList) J (by omega) D (by omega) (by omega)
  have O1 := hid (opened_byte a0 a1 h3 J hJ2 c hc2)
  clear hc2
  go_enter Try.func5, Try.ntmps5
  go_wp2_with fail
  refine (bailiwicklaw07_examples.calls 10 true w ex_eq).mono ?_
  rintro e w1 ⟨rfl, hb1⟩
  go_wp2_with fail
  refine (S1 _).mono ?_
  rintro e w2 ⟨rfl, hb2⟩
  have hcv := Lib.run_convert_string_bytes (P := Try.prog) w2 9 35 5 (ByteArray.mk (sealL a0 a1.data.toList).toArray) Try.underlying9 Try.underlying35 (by kernel_rfl)
  have hmb := MB.new w2 5 (ByteArray.mk (sealL a0 a1.data.toList).toArray)
  have hcell := hmb.cell J (by show J < (sealL a0 a1.data.toList).length; omega)
  have hfree := hmb.free J (by show J < (sealL a0 a1.data.toList).length; omega)
  have hm2 := hmb.set_ J c
  have hcb := hm2.str (P := Try.prog) (src := 35) (dst := 9) Try.underlying35 (by kernel_rfl) (by kernel_rfl) (grownCap w2 256 0 5)
  rw [show ((ByteArray.mk (sealL a0 a1.data.toList).toArray).data.toList.set J c).length = 256 by rw [List.length_set]; exact hl, ← hc1] at hcb
  have hb3 := below_bytes w2 5 (ByteArray.mk (sealL a0 a1.data.toList).toArray)
  have hb4 := hb3.setCell (p := ⟨w2.heap.size, J, none⟩) (Nat.le_refl _) (.int .u8 (((((sealL a0 a1.data.toList)[J]'(by omega)).toNat : Int) + (D : Int)) % 256))
  clear hmb hm2 hb3 hc1
  go_wp2_with fail
  refine (O1 _).mono ?_
  rintro e w5 ⟨rfl, hb5⟩
  go_wp2_with fail
  go_ret
  exact ⟨rfl, next (next (next hb1 hb2) hb4) hb5⟩
set_option maxRecDepth 100000 in
set_option maxHeartbeats 1000000 in
theorem byte_n0 (a0 : Nat) (a1 : ByteArray) (a2 : Int) (w : World) (h1 : 1 ≤ a0) (h2 : a0 ≤ 15) (h3 : a1.size ≤ 240) (b2 : a2 < 0) (c2 : -9223372036854775808 ≤ a2) :
    Calls Try.prog 5 #[.int .i64 a0, .string a1, .int .i64 a2, .int .u8 0] w fun e w' => e = .returned (.bool true) ∧ Below w.heap.size w w' := by
  have hl := sealL_length a0 a1.data.toList h3
  have hsz : (ByteArray.mk (sealL a0 a1.data.toList).toArray).size = 256 := by rw [size_mk, hl]
  have hsz' : ((ByteArray.mk (sealL a0 a1.data.toList).toArray).size : Int) = 256 := by omega
  have S1 := hid (fun W => page_Seal.yes a0 a1 W h1 h2 h3)
  obtain ⟨J, hJ, hJ2⟩ : ∃ J : Nat, -((a2 + 1).tmod 256) = (J : Int) ∧ J < 256 := by
    obtain ⟨n, hn⟩ := Int.eq_ofNat_of_zero_le (show 0 ≤ -(a2 + 1) by omega)
    refine ⟨n % 256, ?_, Nat.mod_lt _ (by decide)⟩
    rw [show a2 + 1 = -(n : Int) by omega, Int.neg_tmod, Int.neg_neg]
    rfl
  obtain ⟨c, hc1, hc2⟩ := stored_byte (sealL a0 a1.data.toList) J (by omega) 1 (by omega) (by omega)
  rw [show ((1 : Nat) : Int) = 1 from rfl] at hc1
  have O1 := hid (opened_byte a0 a1 h3 J hJ2 c hc2)
  clear hc2
  go_enter Try.func5, Try.ntmps5
  go_wp2_with fail
  refine (bailiwicklaw07_examples.calls 10 true w ex_eq).mono ?_
  rintro e w1 ⟨rfl, hb1⟩
  go_wp2_with fail
  refine (S1 _).mono ?_
  rintro e w2 ⟨rfl, hb2⟩
  have hcv := Lib.run_convert_string_bytes (P := Try.prog) w2 9 35 5 (ByteArray.mk (sealL a0 a1.data.toList).toArray) Try.underlying9 Try.underlying35 (by kernel_rfl)
  have hmb := MB.new w2 5 (ByteArray.mk (sealL a0 a1.data.toList).toArray)
  have hcell := hmb.cell J (by show J < (sealL a0 a1.data.toList).length; omega)
  have hfree := hmb.free J (by show J < (sealL a0 a1.data.toList).length; omega)
  have hm2 := hmb.set_ J c
  have hcb := hm2.str (P := Try.prog) (src := 35) (dst := 9) Try.underlying35 (by kernel_rfl) (by kernel_rfl) (grownCap w2 256 0 5)
  rw [show ((ByteArray.mk (sealL a0 a1.data.toList).toArray).data.toList.set J c).length = 256 by rw [List.length_set]; exact hl, ← hc1] at hcb
  have hb3 := below_bytes w2 5 (ByteArray.mk (sealL a0 a1.data.toList).toArray)
  have hb4 := hb3.setCell (p := ⟨w2.heap.size, J, none⟩) (Nat.le_refl _) (.int .u8 (((((sealL a0 a1.data.toList)[J]'(by omega)).toNat : Int) + 1) % 256))
  clear hmb hm2 hb3 hc1
  go_wp2_with fail
  refine (O1 _).mono ?_
  rintro e w5 ⟨rfl, hb5⟩
  go_wp2_with fail
  go_ret
  exact ⟨rfl, next (next (next hb1 hb2) hb4) hb5⟩
set_option maxRecDepth 100000 in
set_option maxHeartbeats 1000000 in
theorem byte_nD (a0 : Nat) (a1 : ByteArray) (a2 : Int) (D : Nat) (w : World) (h1 : 1 ≤ a0) (h2 : a0 ≤ 15) (h3 : a1.size ≤ 240) (b2 : a2 < 0) (c2 : -9223372036854775808 ≤ a2) (b3 : 1 ≤ D) (c3 : D ≤ 255) :
    Calls Try.prog 5 #[.int .i64 a0, .string a1, .int .i64 a2, .int .u8 (D : Int)] w fun e w' => e = .returned (.bool true) ∧ Below w.heap.size w w' := by
  have hl := sealL_length a0 a1.data.toList h3
  have hsz : (ByteArray.mk (sealL a0 a1.data.toList).toArray).size = 256 := by rw [size_mk, hl]
  have hsz' : ((ByteArray.mk (sealL a0 a1.data.toList).toArray).size : Int) = 256 := by omega
  have S1 := hid (fun W => page_Seal.yes a0 a1 W h1 h2 h3)
  obtain ⟨J, hJ, hJ2⟩ : ∃ J : Nat, -((a2 + 1).tmod 256) = (J : Int) ∧ J < 256 := by
    obtain ⟨n, hn⟩ := Int.eq_ofNat_of_zero_le (show 0 ≤ -(a2 + 1) by omega)
    refine ⟨n % 256, ?_, Nat.mod_lt _ (by decide)⟩
    rw [show a2 + 1 = -(n : Int) by omega, Int.neg_tmod, Int.neg_neg]
    rfl
  obtain ⟨c, hc1, hc2⟩ := stored_byte (sealL a0 a1.data.toList) J (by omega) D (by omega) (by omega)
  have O1 := hid (opened_byte a0 a1 h3 J hJ2 c hc2)
  clear hc2
  go_enter Try.func5, Try.ntmps5
  go_wp2_with fail
  refine (bailiwicklaw07_examples.calls 10 true w ex_eq).mono ?_
  rintro e w1 ⟨rfl, hb1⟩
  go_wp2_with fail
  refine (S1 _).mono ?_
  rintro e w2 ⟨rfl, hb2⟩
  have hcv := Lib.run_convert_string_bytes (P := Try.prog) w2 9 35 5 (ByteArray.mk (sealL a0 a1.data.toList).toArray) Try.underlying9 Try.underlying35 (by kernel_rfl)
  have hmb := MB.new w2 5 (ByteArray.mk (sealL a0 a1.data.toList).toArray)
  have hcell := hmb.cell J (by show J < (sealL a0 a1.data.toList).length; omega)
  have hfree := hmb.free J (by show J < (sealL a0 a1.data.toList).length; omega)
  have hm2 := hmb.set_ J c
  have hcb := hm2.str (P := Try.prog) (src := 35) (dst := 9) Try.underlying35 (by kernel_rfl) (by kernel_rfl) (grownCap w2 256 0 5)
  rw [show ((ByteArray.mk (sealL a0 a1.data.toList).toArray).data.toList.set J c).length = 256 by rw [List.length_set]; exact hl, ← hc1] at hcb
  have hb3 := below_bytes w2 5 (ByteArray.mk (sealL a0 a1.data.toList).toArray)
  have hb4 := hb3.setCell (p := ⟨w2.heap.size, J, none⟩) (Nat.le_refl _) (.int .u8 (((((sealL a0 a1.data.toList)[J]'(by omega)).toNat : Int) + (D : Int)) % 256))
  clear hmb hm2 hb3 hc1
  go_wp2_with fail
  refine (O1 _).mono ?_
  rintro e w5 ⟨rfl, hb5⟩
  go_wp2_with fail
  go_ret
  exact ⟨rfl, next (next (next hb1 hb2) hb4) hb5⟩
set_option maxRecDepth 100000 in
theorem byte_no (a0 : Int) (a1 : ByteArray) (a2 a3 : Int) (w : World) (hn : ¬ (1 ≤ a0 ∧ a0 ≤ 15 ∧ a1.size ≤ 240)) :
    Calls Try.prog 5 #[.int .i64 a0, .string a1, .int .i64 a2, .int .u8 a3] w fun e w' => e = .returned (.bool true) ∧ Below w.heap.size w w' := by
  have S1 := hid (fun W => page_Seal.no a0 a1 W hn)
  clear hn
  go_enter Try.func5, Try.ntmps5
  go_wp2_with fail
  refine (bailiwicklaw07_examples.calls 10 true w ex_eq).mono ?_
  rintro e w1 ⟨rfl, hb1⟩
  go_wp2_with fail
  refine (S1 _).mono ?_
  rintro e w2 ⟨rfl, hb2⟩
  go_wp2_with fail
  go_ret
  exact ⟨rfl, next hb1 hb2⟩
theorem PageByte_walk (a0 : Int) (a1 : ByteArray) (a2 a3 : Int) (w : World) (w0 : (Lit.int .i64 a0).wf = true) (w1 : a1.size ≤ 140737488351232) (w2 : (Lit.int .i64 a2).wf = true) (w3 : (Lit.int .u8 a3).wf = true) :
    Calls Try.prog 5 #[.int .i64 a0, .string a1, .int .i64 a2, .int .u8 a3] w fun e w' => e = .returned (.bool true) ∧ Below w.heap.size w w' := by
  by_cases h : 1 ≤ a0 ∧ a0 ≤ 15 ∧ a1.size ≤ 240
  · obtain ⟨n, rfl⟩ := Int.eq_ofNat_of_zero_le (show 0 ≤ a0 by omega)
    have e2 := bounds_i64 w2
    have e3 := bounds_u8 w3
    obtain ⟨D, rfl⟩ := Int.eq_ofNat_of_zero_le e3.1
    by_cases hD : 1 ≤ D
    · by_cases h2 : 0 ≤ a2
      · exact byte_pD n a1 a2 D w (by omega) (by omega) h.2.2 h2 e2.2 hD (by omega)
      · exact byte_nD n a1 a2 D w (by omega) (by omega) h.2.2 (by omega) e2.1 hD (by omega)
    · obtain rfl : D = 0 := by omega
      by_cases h2 : 0 ≤ a2
      · exact byte_p0 n a1 a2 w (by omega) (by omega) h.2.2 h2 e2.2
      · exact byte_n0 n a1 a2 w (by omega) (by omega) h.2.2 (by omega) e2.1
  · exact byte_no a0 a1 a2 a3 w h
end Go.Proofs.Ytnffhdlkkfphbaa.Pure
