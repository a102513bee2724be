/-
  What Right and Encode answer at each request.
-/
import Derived.Test.YtfbcidfbgebbhaaE0
import Derived.Test.YtfbcidfbgebbhaaC3
import Derived.Test.YtfbcidfbgebbhaaC4
import Derived.Test.YtfbcidfbgebbhaaC5
import Derived.Test.YtfbcidfbgebbhaaC6
import Derived.Test.YtfbcidfbgebbhaaC7
import Derived.Test.YtfbcidfbgebbhaaC8
import Derived.Test.YtfbcidfbgebbhaaD0
namespace Go.Proofs.Ytfbcidfbgebbhaa.Pure
set_option linter.unusedVariables false
set_option linter.unusedSimpArgs false
open Go.RowKit Go.Proofs.YtfbcidfbgebbhaaW.PrintWords Go.Proofs.YtfbcidfbgebbhaaW.PrintLast Go.Proofs.YtfbcidfbgebbhaaW.PrintMore
open Go.Proofs.Ytfbcidfbgebbhaa.Q
/-- A part of a request. -/
inductive Pt where
  | name (s : ByteArray)
  | handle (s : ByteArray)
  | mask (n : Int)
  | letter (c : Int)
  | bool (b : Bool)
  | num (n : Int) (z : Nat) (lo hi : Int)
def Pt.ok : Pt → Bool
  | .name s => R.rightB s
  | .handle s => ((s.size : Int) == 29)
  | .mask n => decide (0 ≤ n ∧ n < 65536)
  | .letter c => (decide (97 ≤ c) && decide (c < 113))
  | .bool _ => true
  | .num n _ lo hi => (decide (lo ≤ n) && decide (n ≤ hi))
def Pt.tx : Pt → ByteArray
  | .name s => strOfNums [(s.size : Int) % 256] ++ s
  | .handle s => s
  | .mask n => strOfNums [((⟨(lets n.toNat).toArray⟩ : ByteArray).size : Int) % 256] ++ ⟨(lets n.toNat).toArray⟩
  | .letter c => strOfNums [((⟨#[UInt8.ofNat c.toNat]⟩ : ByteArray).size : Int) % 256] ++ ⟨#[UInt8.ofNat c.toNat]⟩
  | .bool b => if b = true then ⟨#[1]⟩ else ⟨#[0]⟩
  | .num n z _ _ => strOfNums (be z n)
def okL (l : List Pt) : Bool := l.all Pt.ok
def txL : List Pt → ByteArray
  | [] => ⟨#[]⟩
  | p :: l => p.tx ++ txL l
def hdr (op id : Int) : ByteArray := strOfNums (be 1 1) ++ (strOfNums (be 1 op) ++ strOfNums (be 4 id))
theorem app_nil (a : ByteArray) : a ++ (⟨#[]⟩ : ByteArray) = a := by
  apply ByteArray.ext
  simp [ByteArray.data_append]
structure Sum (v : Value) (op : Int) (l : List Pt) (id : Int) : Prop where
  right : ∀ W : World, Calls Try.prog 12 #[v] W fun e w' => e = .returned (.bool (okL l)) ∧ Below W.heap.size W w'
  yes : okL l = true → (0 ≤ id ∧ id < 4294967296) → ∀ W : World, Calls Try.prog 10 #[.int .i64 id, v] W fun e w' => e = .returned (.tuple #[.string (hdr op id ++ txL l), .int .i64 0]) ∧ Below W.heap.size W w'
  no : ¬ (okL l = true ∧ 0 ≤ id ∧ id < 4294967296) → ∀ W : World, Calls Try.prog 10 #[.int .i64 id, v] W fun e w' => e = .returned (.tuple #[.string ⟨#[]⟩, .int .i64 1]) ∧ Below W.heap.size W w'
theorem sumHello (x0 : ByteArray) (h0 : x0.size ≤ 140737488351232) (id : Int) : Sum (.iface 61 (.agg #[.string x0])) 1 [.name x0] id := by
  have hR : ∀ W : World, Calls Try.prog 12 #[.iface 61 (.agg #[.string x0])] W fun e w' => e = .returned (.bool (okL [.name x0])) ∧ Below W.heap.size W w' := fun W => by
    have h := C.RightHello x0 _ (by rw [R.Right.f, if_pos (by omega)]) W
    refine h.mono ?_
    rintro e w' ⟨rfl, hb⟩
    exact ⟨by simp [okL, Pt.ok, Bool.and_assoc], hb⟩
  refine ⟨hR, ?_, ?_⟩
  · intro hq hid W
    have hI : P.proto_idRight.f id = some true := by rw [P.proto_idRight.f, if_pos hid.1, decide_eq_true hid.2]
    have n1 := num_any 1 1 (by omega) (by omega) (by omega)
    have n2 := num_any 1 1 (by omega) (by omega) (by omega)
    have n3 := num_any id 4 (by omega) hid.1 (by simpa using hid.2)
    have hq2 := hq
    simp [okL, Pt.ok] at hq2
    have r0 := hq2
    have s0 := name_size x0 r0
    obtain ⟨t0, ht0, et0, zt0⟩ := text_size x0 (by omega)
    have h := C.EncodeHello id x0 t0 ht0 _ _ _ hI (fun W => by rw [← hq]; exact hR W) n1 n2 n3 (by
      have a1 := num_size 1 1
      have a2 := num_size 1 1
      have a3 := num_size id 4
      omega) W
    refine h.mono ?_
    rintro e w' ⟨rfl, hb⟩
    refine ⟨?_, hb⟩
    simp only [txL, Pt.tx, hdr, app_assoc, app_nil, et0]
    (try rfl)
  · intro hn W
    by_cases hid : 0 ≤ id ∧ id < 4294967296
    · exact C.Encode_no id _ true (okL [.name x0]) (by rw [P.proto_idRight.f, if_pos hid.1, decide_eq_true hid.2]) hR (.inr ⟨rfl, by cases h : okL [.name x0] with | false => rfl | true => exact absurd ⟨h, hid⟩ hn⟩) W
    · exact C.Encode_no id _ false (okL [.name x0]) (by rw [P.proto_idRight.f]; split <;> (first | rfl | (congr 1; exact decide_eq_false (by omega)))) hR (.inl rfl) W
theorem sumRegister (x0 : ByteArray) (x1 : Int) (h0 : x0.size ≤ 140737488351232) (id : Int) : Sum (.iface 48 (.agg #[.string x0, .int .i64 x1])) 2 [.name x0, .num x1 2 0 1000] id := by
  have hR : ∀ W : World, Calls Try.prog 12 #[.iface 48 (.agg #[.string x0, .int .i64 x1])] W fun e w' => e = .returned (.bool (okL [.name x0, .num x1 2 0 1000])) ∧ Below W.heap.size W w' := fun W => by
    have h := C.RightRegister x0 x1 _ (by rw [R.Right.f, if_pos (by omega)]) _ rfl W
    refine h.mono ?_
    rintro e w' ⟨rfl, hb⟩
    exact ⟨by simp [okL, Pt.ok, Bool.and_assoc], hb⟩
  refine ⟨hR, ?_, ?_⟩
  · intro hq hid W
    have hI : P.proto_idRight.f id = some true := by rw [P.proto_idRight.f, if_pos hid.1, decide_eq_true hid.2]
    have n1 := num_any 1 1 (by omega) (by omega) (by omega)
    have n2 := num_any 2 1 (by omega) (by omega) (by omega)
    have n3 := num_any id 4 (by omega) hid.1 (by simpa using hid.2)
    have hq2 := hq
    simp [okL, Pt.ok] at hq2
    obtain ⟨r0, r1⟩ := hq2
    have s0 := name_size x0 r0
    obtain ⟨t0, ht0, et0, zt0⟩ := text_size x0 (by omega)
    have ht1 := num_any x1 2 (by omega) (by omega) (by simp; omega)
    obtain ⟨t1, et1⟩ : ∃ t, t = strOfNums (be 2 x1) := ⟨_, rfl⟩
    have zt1 : t1.size = 2 := by rw [et1, num_size]
    rw [← et1] at ht1
    have h := C.EncodeRegister id x0 x1 t0 ht0 t1 ht1 _ _ _ hI (fun W => by rw [← hq]; exact hR W) n1 n2 n3 (by
      have a1 := num_size 1 1
      have a2 := num_size 2 1
      have a3 := num_size id 4
      omega) W
    refine h.mono ?_
    rintro e w' ⟨rfl, hb⟩
    refine ⟨?_, hb⟩
    simp only [txL, Pt.tx, hdr, app_assoc, app_nil, et0, et1]
    (try rfl)
  · intro hn W
    by_cases hid : 0 ≤ id ∧ id < 4294967296
    · exact C.Encode_no id _ true (okL [.name x0, .num x1 2 0 1000]) (by rw [P.proto_idRight.f, if_pos hid.1, decide_eq_true hid.2]) hR (.inr ⟨rfl, by cases h : okL [.name x0, .num x1 2 0 1000] with | false => rfl | true => exact absurd ⟨h, hid⟩ hn⟩) W
    · exact C.Encode_no id _ false (okL [.name x0, .num x1 2 0 1000]) (by rw [P.proto_idRight.f]; split <;> (first | rfl | (congr 1; exact decide_eq_false (by omega)))) hR (.inl rfl) W
theorem sumMint (x0 : Int) (x1 : Int) (x2 : Int) (x3 : Int)  (id : Int) : Sum (.iface 50 (.agg #[.int .i64 x0, .int .i64 x1, .int .i64 x2, .int .i64 x3])) 3 [.num x0 3 1 16777215, .mask x1, .num x2 4 0 4294967295, .num x3 4 0 268435455] id := by
  have hR : ∀ W : World, Calls Try.prog 12 #[.iface 50 (.agg #[.int .i64 x0, .int .i64 x1, .int .i64 x2, .int .i64 x3])] W fun e w' => e = .returned (.bool (okL [.num x0 3 1 16777215, .mask x1, .num x2 4 0 4294967295, .num x3 4 0 268435455])) ∧ Below W.heap.size W w' := fun W => by
    have h := C.RightMint x0 x1 x2 x3 _ rfl _ (mask_right x1) _ rfl _ rfl W
    refine h.mono ?_
    rintro e w' ⟨rfl, hb⟩
    exact ⟨by simp [okL, Pt.ok, Bool.and_assoc], hb⟩
  refine ⟨hR, ?_, ?_⟩
  · intro hq hid W
    have hI : P.proto_idRight.f id = some true := by rw [P.proto_idRight.f, if_pos hid.1, decide_eq_true hid.2]
    have n1 := num_any 1 1 (by omega) (by omega) (by omega)
    have n2 := num_any 3 1 (by omega) (by omega) (by omega)
    have n3 := num_any id 4 (by omega) hid.1 (by simpa using hid.2)
    have hq2 := hq
    simp [okL, Pt.ok] at hq2
    obtain ⟨r0, r1, r2, r3⟩ := hq2
    have ht0 := num_any x0 3 (by omega) (by omega) (by simp; omega)
    obtain ⟨t0, et0⟩ : ∃ t, t = strOfNums (be 3 x0) := ⟨_, rfl⟩
    have zt0 : t0.size = 3 := by rw [et0, num_size]
    rw [← et0] at ht0
    have hm1 : rights_Text.f 40 x1 = some (⟨(lets x1.toNat).toArray⟩, true) := by
      have := text_eq x1.toNat (by omega) 40 (by omega)
      rwa [Int.toNat_of_nonneg r1.1] at this
    have hl1 := lets_len x1.toNat
    have hl21 : (⟨(lets x1.toNat).toArray⟩ : ByteArray).size = (lets x1.toNat).length := by simp [ByteArray.size]
    obtain ⟨t1, ht1, et1, zt1⟩ := text_size ⟨(lets x1.toNat).toArray⟩ (by omega)
    have ht2 := num_any x2 4 (by omega) (by omega) (by simp; omega)
    obtain ⟨t2, et2⟩ : ∃ t, t = strOfNums (be 4 x2) := ⟨_, rfl⟩
    have zt2 : t2.size = 4 := by rw [et2, num_size]
    rw [← et2] at ht2
    have ht3 := num_any x3 4 (by omega) (by omega) (by simp; omega)
    obtain ⟨t3, et3⟩ : ∃ t, t = strOfNums (be 4 x3) := ⟨_, rfl⟩
    have zt3 : t3.size = 4 := by rw [et3, num_size]
    rw [← et3] at ht3
    have h := C.EncodeMint id x0 x1 x2 x3 t0 ht0 _ _ t1 hm1 ht1 t2 ht2 t3 ht3 _ _ _ hI (fun W => by rw [← hq]; exact hR W) n1 n2 n3 (by
      have a1 := num_size 1 1
      have a2 := num_size 3 1
      have a3 := num_size id 4
      omega) W
    refine h.mono ?_
    rintro e w' ⟨rfl, hb⟩
    refine ⟨?_, hb⟩
    simp only [txL, Pt.tx, hdr, app_assoc, app_nil, et0, et1, et2, et3]
    (try rfl)
  · intro hn W
    by_cases hid : 0 ≤ id ∧ id < 4294967296
    · exact C.Encode_no id _ true (okL [.num x0 3 1 16777215, .mask x1, .num x2 4 0 4294967295, .num x3 4 0 268435455]) (by rw [P.proto_idRight.f, if_pos hid.1, decide_eq_true hid.2]) hR (.inr ⟨rfl, by cases h : okL [.num x0 3 1 16777215, .mask x1, .num x2 4 0 4294967295, .num x3 4 0 268435455] with | false => rfl | true => exact absurd ⟨h, hid⟩ hn⟩) W
    · exact C.Encode_no id _ false (okL [.num x0 3 1 16777215, .mask x1, .num x2 4 0 4294967295, .num x3 4 0 268435455]) (by rw [P.proto_idRight.f]; split <;> (first | rfl | (congr 1; exact decide_eq_false (by omega)))) hR (.inl rfl) W
theorem sumDerive (x0 : ByteArray) (x1 : ByteArray) (x2 : Int) (x3 : Int) (x4 : Int) (h0 : x0.size ≤ 140737488351232) (h1 : x1.size ≤ 140737488351232) (id : Int) : Sum (.iface 69 (.agg #[.string x0, .string x1, .int .i64 x2, .int .i64 x3, .int .i64 x4])) 4 [.handle x0, .name x1, .mask x2, .num x3 4 0 4294967295, .num x4 4 0 268435455] id := by
  have hR : ∀ W : World, Calls Try.prog 12 #[.iface 69 (.agg #[.string x0, .string x1, .int .i64 x2, .int .i64 x3, .int .i64 x4])] W fun e w' => e = .returned (.bool (okL [.handle x0, .name x1, .mask x2, .num x3 4 0 4294967295, .num x4 4 0 268435455])) ∧ Below W.heap.size W w' := fun W => by
    have h := C.RightDerive x0 x1 x2 x3 x4 _ rfl _ (by rw [R.Right.f, if_pos (by omega)]) _ (mask_right x2) _ rfl _ rfl W
    refine h.mono ?_
    rintro e w' ⟨rfl, hb⟩
    exact ⟨by simp [okL, Pt.ok, Bool.and_assoc], hb⟩
  refine ⟨hR, ?_, ?_⟩
  · intro hq hid W
    have hI : P.proto_idRight.f id = some true := by rw [P.proto_idRight.f, if_pos hid.1, decide_eq_true hid.2]
    have n1 := num_any 1 1 (by omega) (by omega) (by omega)
    have n2 := num_any 4 1 (by omega) (by omega) (by omega)
    have n3 := num_any id 4 (by omega) hid.1 (by simpa using hid.2)
    have hq2 := hq
    simp [okL, Pt.ok] at hq2
    obtain ⟨r0, r1, r2, r3, r4⟩ := hq2
    obtain ⟨t0, et0⟩ : ∃ t, t = x0 := ⟨_, rfl⟩
    have zt0 : t0.size = 29 := by rw [et0]; omega
    have s1 := name_size x1 r1
    obtain ⟨t1, ht1, et1, zt1⟩ := text_size x1 (by omega)
    have hm2 : rights_Text.f 40 x2 = some (⟨(lets x2.toNat).toArray⟩, true) := by
      have := text_eq x2.toNat (by omega) 40 (by omega)
      rwa [Int.toNat_of_nonneg r2.1] at this
    have hl2 := lets_len x2.toNat
    have hl22 : (⟨(lets x2.toNat).toArray⟩ : ByteArray).size = (lets x2.toNat).length := by simp [ByteArray.size]
    obtain ⟨t2, ht2, et2, zt2⟩ := text_size ⟨(lets x2.toNat).toArray⟩ (by omega)
    have ht3 := num_any x3 4 (by omega) (by omega) (by simp; omega)
    obtain ⟨t3, et3⟩ : ∃ t, t = strOfNums (be 4 x3) := ⟨_, rfl⟩
    have zt3 : t3.size = 4 := by rw [et3, num_size]
    rw [← et3] at ht3
    have ht4 := num_any x4 4 (by omega) (by omega) (by simp; omega)
    obtain ⟨t4, et4⟩ : ∃ t, t = strOfNums (be 4 x4) := ⟨_, rfl⟩
    have zt4 : t4.size = 4 := by rw [et4, num_size]
    rw [← et4] at ht4
    have h := C.EncodeDerive id x0 x1 x2 x3 x4 t0 et0.symm t1 ht1 _ _ t2 hm2 ht2 t3 ht3 t4 ht4 _ _ _ hI (fun W => by rw [← hq]; exact hR W) n1 n2 n3 (by
      have a1 := num_size 1 1
      have a2 := num_size 4 1
      have a3 := num_size id 4
      omega) W
    refine h.mono ?_
    rintro e w' ⟨rfl, hb⟩
    refine ⟨?_, hb⟩
    simp only [txL, Pt.tx, hdr, app_assoc, app_nil, et0, et1, et2, et3, et4]
    (try rfl)
  · intro hn W
    by_cases hid : 0 ≤ id ∧ id < 4294967296
    · exact C.Encode_no id _ true (okL [.handle x0, .name x1, .mask x2, .num x3 4 0 4294967295, .num x4 4 0 268435455]) (by rw [P.proto_idRight.f, if_pos hid.1, decide_eq_true hid.2]) hR (.inr ⟨rfl, by cases h : okL [.handle x0, .name x1, .mask x2, .num x3 4 0 4294967295, .num x4 4 0 268435455] with | false => rfl | true => exact absurd ⟨h, hid⟩ hn⟩) W
    · exact C.Encode_no id _ false (okL [.handle x0, .name x1, .mask x2, .num x3 4 0 4294967295, .num x4 4 0 268435455]) (by rw [P.proto_idRight.f]; split <;> (first | rfl | (congr 1; exact decide_eq_false (by omega)))) hR (.inl rfl) W
theorem sumRenew (x0 : ByteArray) (x1 : Int) (h0 : x0.size ≤ 140737488351232) (id : Int) : Sum (.iface 59 (.agg #[.string x0, .int .i64 x1])) 5 [.handle x0, .num x1 4 0 268435455] id := by
  have hR : ∀ W : World, Calls Try.prog 12 #[.iface 59 (.agg #[.string x0, .int .i64 x1])] W fun e w' => e = .returned (.bool (okL [.handle x0, .num x1 4 0 268435455])) ∧ Below W.heap.size W w' := fun W => by
    have h := C.RightRenew x0 x1 _ rfl _ rfl W
    refine h.mono ?_
    rintro e w' ⟨rfl, hb⟩
    exact ⟨by simp [okL, Pt.ok, Bool.and_assoc], hb⟩
  refine ⟨hR, ?_, ?_⟩
  · intro hq hid W
    have hI : P.proto_idRight.f id = some true := by rw [P.proto_idRight.f, if_pos hid.1, decide_eq_true hid.2]
    have n1 := num_any 1 1 (by omega) (by omega) (by omega)
    have n2 := num_any 5 1 (by omega) (by omega) (by omega)
    have n3 := num_any id 4 (by omega) hid.1 (by simpa using hid.2)
    have hq2 := hq
    simp [okL, Pt.ok] at hq2
    obtain ⟨r0, r1⟩ := hq2
    obtain ⟨t0, et0⟩ : ∃ t, t = x0 := ⟨_, rfl⟩
    have zt0 : t0.size = 29 := by rw [et0]; omega
    have ht1 := num_any x1 4 (by omega) (by omega) (by simp; omega)
    obtain ⟨t1, et1⟩ : ∃ t, t = strOfNums (be 4 x1) := ⟨_, rfl⟩
    have zt1 : t1.size = 4 := by rw [et1, num_size]
    rw [← et1] at ht1
    have h := C.EncodeRenew id x0 x1 t0 et0.symm t1 ht1 _ _ _ hI (fun W => by rw [← hq]; exact hR W) n1 n2 n3 (by
      have a1 := num_size 1 1
      have a2 := num_size 5 1
      have a3 := num_size id 4
      omega) W
    refine h.mono ?_
    rintro e w' ⟨rfl, hb⟩
    refine ⟨?_, hb⟩
    simp only [txL, Pt.tx, hdr, app_assoc, app_nil, et0, et1]
    (try rfl)
  · intro hn W
    by_cases hid : 0 ≤ id ∧ id < 4294967296
    · exact C.Encode_no id _ true (okL [.handle x0, .num x1 4 0 268435455]) (by rw [P.proto_idRight.f, if_pos hid.1, decide_eq_true hid.2]) hR (.inr ⟨rfl, by cases h : okL [.handle x0, .num x1 4 0 268435455] with | false => rfl | true => exact absurd ⟨h, hid⟩ hn⟩) W
    · exact C.Encode_no id _ false (okL [.handle x0, .num x1 4 0 268435455]) (by rw [P.proto_idRight.f]; split <;> (first | rfl | (congr 1; exact decide_eq_false (by omega)))) hR (.inl rfl) W
theorem sumValidate (x0 : ByteArray) (h0 : x0.size ≤ 140737488351232) (id : Int) : Sum (.iface 52 (.agg #[.string x0])) 6 [.handle x0] id := by
  have hR : ∀ W : World, Calls Try.prog 12 #[.iface 52 (.agg #[.string x0])] W fun e w' => e = .returned (.bool (okL [.handle x0])) ∧ Below W.heap.size W w' := fun W => by
    have h := C.RightValidate x0 _ rfl W
    refine h.mono ?_
    rintro e w' ⟨rfl, hb⟩
    exact ⟨by simp [okL, Pt.ok, Bool.and_assoc], hb⟩
  refine ⟨hR, ?_, ?_⟩
  · intro hq hid W
    have hI : P.proto_idRight.f id = some true := by rw [P.proto_idRight.f, if_pos hid.1, decide_eq_true hid.2]
    have n1 := num_any 1 1 (by omega) (by omega) (by omega)
    have n2 := num_any 6 1 (by omega) (by omega) (by omega)
    have n3 := num_any id 4 (by omega) hid.1 (by simpa using hid.2)
    have hq2 := hq
    simp [okL, Pt.ok] at hq2
    have r0 := hq2
    obtain ⟨t0, et0⟩ : ∃ t, t = x0 := ⟨_, rfl⟩
    have zt0 : t0.size = 29 := by rw [et0]; omega
    have h := C.EncodeValidate id x0 t0 et0.symm _ _ _ hI (fun W => by rw [← hq]; exact hR W) n1 n2 n3 (by
      have a1 := num_size 1 1
      have a2 := num_size 6 1
      have a3 := num_size id 4
      omega) W
    refine h.mono ?_
    rintro e w' ⟨rfl, hb⟩
    refine ⟨?_, hb⟩
    simp only [txL, Pt.tx, hdr, app_assoc, app_nil, et0]
    (try rfl)
  · intro hn W
    by_cases hid : 0 ≤ id ∧ id < 4294967296
    · exact C.Encode_no id _ true (okL [.handle x0]) (by rw [P.proto_idRight.f, if_pos hid.1, decide_eq_true hid.2]) hR (.inr ⟨rfl, by cases h : okL [.handle x0] with | false => rfl | true => exact absurd ⟨h, hid⟩ hn⟩) W
    · exact C.Encode_no id _ false (okL [.handle x0]) (by rw [P.proto_idRight.f]; split <;> (first | rfl | (congr 1; exact decide_eq_false (by omega)))) hR (.inl rfl) W
theorem sumInvoke (x0 : ByteArray) (x1 : Int) (h0 : x0.size ≤ 140737488351232) (id : Int) : Sum (.iface 55 (.agg #[.string x0, .int .i32 x1])) 7 [.handle x0, .letter x1] id := by
  have hR : ∀ W : World, Calls Try.prog 12 #[.iface 55 (.agg #[.string x0, .int .i32 x1])] W fun e w' => e = .returned (.bool (okL [.handle x0, .letter x1])) ∧ Below W.heap.size W w' := fun W => by
    have h := C.RightInvoke x0 x1 _ rfl _ rfl W
    refine h.mono ?_
    rintro e w' ⟨rfl, hb⟩
    exact ⟨by simp [okL, Pt.ok, Bool.and_assoc], hb⟩
  refine ⟨hR, ?_, ?_⟩
  · intro hq hid W
    have hI : P.proto_idRight.f id = some true := by rw [P.proto_idRight.f, if_pos hid.1, decide_eq_true hid.2]
    have n1 := num_any 1 1 (by omega) (by omega) (by omega)
    have n2 := num_any 7 1 (by omega) (by omega) (by omega)
    have n3 := num_any id 4 (by omega) hid.1 (by simpa using hid.2)
    have hq2 := hq
    simp [okL, Pt.ok] at hq2
    obtain ⟨r0, r1⟩ := hq2
    obtain ⟨t0, et0⟩ : ∃ t, t = x0 := ⟨_, rfl⟩
    have zt0 : t0.size = 29 := by rw [et0]; omega
    have hm1 := letter_one x1 r1.1 r1.2
    obtain ⟨t1, ht1, et1, zt1⟩ := text_size ⟨#[UInt8.ofNat x1.toNat]⟩ (by show 1 ≤ 255; omega)
    have hl1 : (⟨#[UInt8.ofNat x1.toNat]⟩ : ByteArray).size = 1 := rfl
    have h := C.EncodeInvoke id x0 x1 t0 et0.symm _ t1 hm1 ht1 _ _ _ hI (fun W => by rw [← hq]; exact hR W) n1 n2 n3 (by
      have a1 := num_size 1 1
      have a2 := num_size 7 1
      have a3 := num_size id 4
      omega) W
    refine h.mono ?_
    rintro e w' ⟨rfl, hb⟩
    refine ⟨?_, hb⟩
    simp only [txL, Pt.tx, hdr, app_assoc, app_nil, et0, et1]
    (try rfl)
  · intro hn W
    by_cases hid : 0 ≤ id ∧ id < 4294967296
    · exact C.Encode_no id _ true (okL [.handle x0, .letter x1]) (by rw [P.proto_idRight.f, if_pos hid.1, decide_eq_true hid.2]) hR (.inr ⟨rfl, by cases h : okL [.handle x0, .letter x1] with | false => rfl | true => exact absurd ⟨h, hid⟩ hn⟩) W
    · exact C.Encode_no id _ false (okL [.handle x0, .letter x1]) (by rw [P.proto_idRight.f]; split <;> (first | rfl | (congr 1; exact decide_eq_false (by omega)))) hR (.inl rfl) W
theorem sumRevoke (x0 : ByteArray) (x1 : Bool) (h0 : x0.size ≤ 140737488351232) (id : Int) : Sum (.iface 71 (.agg #[.string x0, .bool x1])) 8 [.handle x0, .bool x1] id := by
  have hR : ∀ W : World, Calls Try.prog 12 #[.iface 71 (.agg #[.string x0, .bool x1])] W fun e w' => e = .returned (.bool (okL [.handle x0, .bool x1])) ∧ Below W.heap.size W w' := fun W => by
    have h := C.RightRevoke x0 x1 _ rfl _ rfl W
    refine h.mono ?_
    rintro e w' ⟨rfl, hb⟩
    exact ⟨by simp [okL, Pt.ok, Bool.and_assoc], hb⟩
  refine ⟨hR, ?_, ?_⟩
  · intro hq hid W
    have hI : P.proto_idRight.f id = some true := by rw [P.proto_idRight.f, if_pos hid.1, decide_eq_true hid.2]
    have n1 := num_any 1 1 (by omega) (by omega) (by omega)
    have n2 := num_any 8 1 (by omega) (by omega) (by omega)
    have n3 := num_any id 4 (by omega) hid.1 (by simpa using hid.2)
    have hq2 := hq
    simp [okL, Pt.ok] at hq2
    have r0 := hq2
    obtain ⟨t0, et0⟩ : ∃ t, t = x0 := ⟨_, rfl⟩
    have zt0 : t0.size = 29 := by rw [et0]; omega
    obtain ⟨t1, et1⟩ : ∃ t : ByteArray, t = (if x1 = true then ⟨#[1]⟩ else ⟨#[0]⟩) := ⟨_, rfl⟩
    have zt1 : t1.size = 1 := by rw [et1]; split <;> rfl
    have h := C.EncodeRevoke id x0 x1 t0 et0.symm t1 et1.symm _ _ _ hI (fun W => by rw [← hq]; exact hR W) n1 n2 n3 (by
      have a1 := num_size 1 1
      have a2 := num_size 8 1
      have a3 := num_size id 4
      omega) W
    refine h.mono ?_
    rintro e w' ⟨rfl, hb⟩
    refine ⟨?_, hb⟩
    simp only [txL, Pt.tx, hdr, app_assoc, app_nil, et0, et1]
    (try rfl)
  · intro hn W
    by_cases hid : 0 ≤ id ∧ id < 4294967296
    · exact C.Encode_no id _ true (okL [.handle x0, .bool x1]) (by rw [P.proto_idRight.f, if_pos hid.1, decide_eq_true hid.2]) hR (.inr ⟨rfl, by cases h : okL [.handle x0, .bool x1] with | false => rfl | true => exact absurd ⟨h, hid⟩ hn⟩) W
    · exact C.Encode_no id _ false (okL [.handle x0, .bool x1]) (by rw [P.proto_idRight.f]; split <;> (first | rfl | (congr 1; exact decide_eq_false (by omega)))) hR (.inl rfl) W
theorem sumDelete (x0 : ByteArray) (h0 : x0.size ≤ 140737488351232) (id : Int) : Sum (.iface 72 (.agg #[.string x0])) 9 [.handle x0] id := by
  have hR : ∀ W : World, Calls Try.prog 12 #[.iface 72 (.agg #[.string x0])] W fun e w' => e = .returned (.bool (okL [.handle x0])) ∧ Below W.heap.size W w' := fun W => by
    have h := C.RightDelete x0 _ rfl W
    refine h.mono ?_
    rintro e w' ⟨rfl, hb⟩
    exact ⟨by simp [okL, Pt.ok, Bool.and_assoc], hb⟩
  refine ⟨hR, ?_, ?_⟩
  · intro hq hid W
    have hI : P.proto_idRight.f id = some true := by rw [P.proto_idRight.f, if_pos hid.1, decide_eq_true hid.2]
    have n1 := num_any 1 1 (by omega) (by omega) (by omega)
    have n2 := num_any 9 1 (by omega) (by omega) (by omega)
    have n3 := num_any id 4 (by omega) hid.1 (by simpa using hid.2)
    have hq2 := hq
    simp [okL, Pt.ok] at hq2
    have r0 := hq2
    obtain ⟨t0, et0⟩ : ∃ t, t = x0 := ⟨_, rfl⟩
    have zt0 : t0.size = 29 := by rw [et0]; omega
    have h := C.EncodeDelete id x0 t0 et0.symm _ _ _ hI (fun W => by rw [← hq]; exact hR W) n1 n2 n3 (by
      have a1 := num_size 1 1
      have a2 := num_size 9 1
      have a3 := num_size id 4
      omega) W
    refine h.mono ?_
    rintro e w' ⟨rfl, hb⟩
    refine ⟨?_, hb⟩
    simp only [txL, Pt.tx, hdr, app_assoc, app_nil, et0]
    (try rfl)
  · intro hn W
    by_cases hid : 0 ≤ id ∧ id < 4294967296
    · exact C.Encode_no id _ true (okL [.handle x0]) (by rw [P.proto_idRight.f, if_pos hid.1, decide_eq_true hid.2]) hR (.inr ⟨rfl, by cases h : okL [.handle x0] with | false => rfl | true => exact absurd ⟨h, hid⟩ hn⟩) W
    · exact C.Encode_no id _ false (okL [.handle x0]) (by rw [P.proto_idRight.f]; split <;> (first | rfl | (congr 1; exact decide_eq_false (by omega)))) hR (.inl rfl) W
theorem sumMove (x0 : ByteArray) (x1 : ByteArray) (h0 : x0.size ≤ 140737488351232) (h1 : x1.size ≤ 140737488351232) (id : Int) : Sum (.iface 74 (.agg #[.string x0, .string x1])) 10 [.handle x0, .handle x1] id := by
  have hR : ∀ W : World, Calls Try.prog 12 #[.iface 74 (.agg #[.string x0, .string x1])] W fun e w' => e = .returned (.bool (okL [.handle x0, .handle x1])) ∧ Below W.heap.size W w' := fun W => by
    have h := C.RightMove x0 x1 _ rfl _ rfl W
    refine h.mono ?_
    rintro e w' ⟨rfl, hb⟩
    exact ⟨by simp [okL, Pt.ok, Bool.and_assoc], hb⟩
  refine ⟨hR, ?_, ?_⟩
  · intro hq hid W
    have hI : P.proto_idRight.f id = some true := by rw [P.proto_idRight.f, if_pos hid.1, decide_eq_true hid.2]
    have n1 := num_any 1 1 (by omega) (by omega) (by omega)
    have n2 := num_any 10 1 (by omega) (by omega) (by omega)
    have n3 := num_any id 4 (by omega) hid.1 (by simpa using hid.2)
    have hq2 := hq
    simp [okL, Pt.ok] at hq2
    obtain ⟨r0, r1⟩ := hq2
    obtain ⟨t0, et0⟩ : ∃ t, t = x0 := ⟨_, rfl⟩
    have zt0 : t0.size = 29 := by rw [et0]; omega
    obtain ⟨t1, et1⟩ : ∃ t, t = x1 := ⟨_, rfl⟩
    have zt1 : t1.size = 29 := by rw [et1]; omega
    have h := C.EncodeMove id x0 x1 t0 et0.symm t1 et1.symm _ _ _ hI (fun W => by rw [← hq]; exact hR W) n1 n2 n3 (by
      have a1 := num_size 1 1
      have a2 := num_size 10 1
      have a3 := num_size id 4
      omega) W
    refine h.mono ?_
    rintro e w' ⟨rfl, hb⟩
    refine ⟨?_, hb⟩
    simp only [txL, Pt.tx, hdr, app_assoc, app_nil, et0, et1]
    (try rfl)
  · intro hn W
    by_cases hid : 0 ≤ id ∧ id < 4294967296
    · exact C.Encode_no id _ true (okL [.handle x0, .handle x1]) (by rw [P.proto_idRight.f, if_pos hid.1, decide_eq_true hid.2]) hR (.inr ⟨rfl, by cases h : okL [.handle x0, .handle x1] with | false => rfl | true => exact absurd ⟨h, hid⟩ hn⟩) W
    · exact C.Encode_no id _ false (okL [.handle x0, .handle x1]) (by rw [P.proto_idRight.f]; split <;> (first | rfl | (congr 1; exact decide_eq_false (by omega)))) hR (.inl rfl) W
theorem sumList (x0 : ByteArray) (x1 : Int) (x2 : Int) (h0 : x0.size ≤ 140737488351232) (id : Int) : Sum (.iface 57 (.agg #[.string x0, .int .i64 x1, .int .i64 x2])) 11 [.handle x0, .num x1 3 0 16777215, .num x2 1 0 10] id := by
  have hR : ∀ W : World, Calls Try.prog 12 #[.iface 57 (.agg #[.string x0, .int .i64 x1, .int .i64 x2])] W fun e w' => e = .returned (.bool (okL [.handle x0, .num x1 3 0 16777215, .num x2 1 0 10])) ∧ Below W.heap.size W w' := fun W => by
    have h := C.RightList x0 x1 x2 _ rfl _ rfl _ rfl W
    refine h.mono ?_
    rintro e w' ⟨rfl, hb⟩
    exact ⟨by simp [okL, Pt.ok, Bool.and_assoc], hb⟩
  refine ⟨hR, ?_, ?_⟩
  · intro hq hid W
    have hI : P.proto_idRight.f id = some true := by rw [P.proto_idRight.f, if_pos hid.1, decide_eq_true hid.2]
    have n1 := num_any 1 1 (by omega) (by omega) (by omega)
    have n2 := num_any 11 1 (by omega) (by omega) (by omega)
    have n3 := num_any id 4 (by omega) hid.1 (by simpa using hid.2)
    have hq2 := hq
    simp [okL, Pt.ok] at hq2
    obtain ⟨r0, r1, r2⟩ := hq2
    obtain ⟨t0, et0⟩ : ∃ t, t = x0 := ⟨_, rfl⟩
    have zt0 : t0.size = 29 := by rw [et0]; omega
    have ht1 := num_any x1 3 (by omega) (by omega) (by simp; omega)
    obtain ⟨t1, et1⟩ : ∃ t, t = strOfNums (be 3 x1) := ⟨_, rfl⟩
    have zt1 : t1.size = 3 := by rw [et1, num_size]
    rw [← et1] at ht1
    have ht2 := num_any x2 1 (by omega) (by omega) (by simp; omega)
    obtain ⟨t2, et2⟩ : ∃ t, t = strOfNums (be 1 x2) := ⟨_, rfl⟩
    have zt2 : t2.size = 1 := by rw [et2, num_size]
    rw [← et2] at ht2
    have h := C.EncodeList id x0 x1 x2 t0 et0.symm t1 ht1 t2 ht2 _ _ _ hI (fun W => by rw [← hq]; exact hR W) n1 n2 n3 (by
      have a1 := num_size 1 1
      have a2 := num_size 11 1
      have a3 := num_size id 4
      omega) W
    refine h.mono ?_
    rintro e w' ⟨rfl, hb⟩
    refine ⟨?_, hb⟩
    simp only [txL, Pt.tx, hdr, app_assoc, app_nil, et0, et1, et2]
    (try rfl)
  · intro hn W
    by_cases hid : 0 ≤ id ∧ id < 4294967296
    · exact C.Encode_no id _ true (okL [.handle x0, .num x1 3 0 16777215, .num x2 1 0 10]) (by rw [P.proto_idRight.f, if_pos hid.1, decide_eq_true hid.2]) hR (.inr ⟨rfl, by cases h : okL [.handle x0, .num x1 3 0 16777215, .num x2 1 0 10] with | false => rfl | true => exact absurd ⟨h, hid⟩ hn⟩) W
    · exact C.Encode_no id _ false (okL [.handle x0, .num x1 3 0 16777215, .num x2 1 0 10]) (by rw [P.proto_idRight.f]; split <;> (first | rfl | (congr 1; exact decide_eq_false (by omega)))) hR (.inl rfl) W
theorem sumQuota   (id : Int) : Sum (.iface 65 (.agg #[])) 12 [] id := by
  have hR : ∀ W : World, Calls Try.prog 12 #[.iface 65 (.agg #[])] W fun e w' => e = .returned (.bool (okL [])) ∧ Below W.heap.size W w' := fun W => by
    have h := C.RightQuota   W
    refine h.mono ?_
    rintro e w' ⟨rfl, hb⟩
    exact ⟨by simp [okL, Pt.ok, Bool.and_assoc], hb⟩
  refine ⟨hR, ?_, ?_⟩
  · intro hq hid W
    have hI : P.proto_idRight.f id = some true := by rw [P.proto_idRight.f, if_pos hid.1, decide_eq_true hid.2]
    have n1 := num_any 1 1 (by omega) (by omega) (by omega)
    have n2 := num_any 12 1 (by omega) (by omega) (by omega)
    have n3 := num_any id 4 (by omega) hid.1 (by simpa using hid.2)
    have h := C.EncodeQuota id   _ _ _ hI (fun W => by rw [← hq]; exact hR W) n1 n2 n3 (by
      have a1 := num_size 1 1
      have a2 := num_size 12 1
      have a3 := num_size id 4
      omega) W
    refine h.mono ?_
    rintro e w' ⟨rfl, hb⟩
    refine ⟨?_, hb⟩
    simp only [txL, Pt.tx, hdr, app_assoc, app_nil]
    (try rfl)
  · intro hn W
    by_cases hid : 0 ≤ id ∧ id < 4294967296
    · exact C.Encode_no id _ true (okL []) (by rw [P.proto_idRight.f, if_pos hid.1, decide_eq_true hid.2]) hR (.inr ⟨rfl, by cases h : okL [] with | false => rfl | true => exact absurd ⟨h, hid⟩ hn⟩) W
    · exact C.Encode_no id _ false (okL []) (by rw [P.proto_idRight.f]; split <;> (first | rfl | (congr 1; exact decide_eq_false (by omega)))) hR (.inl rfl) W
theorem sumRotate   (id : Int) : Sum (.iface 75 (.agg #[])) 13 [] id := by
  have hR : ∀ W : World, Calls Try.prog 12 #[.iface 75 (.agg #[])] W fun e w' => e = .returned (.bool (okL [])) ∧ Below W.heap.size W w' := fun W => by
    have h := C.RightRotate   W
    refine h.mono ?_
    rintro e w' ⟨rfl, hb⟩
    exact ⟨by simp [okL, Pt.ok, Bool.and_assoc], hb⟩
  refine ⟨hR, ?_, ?_⟩
  · intro hq hid W
    have hI : P.proto_idRight.f id = some true := by rw [P.proto_idRight.f, if_pos hid.1, decide_eq_true hid.2]
    have n1 := num_any 1 1 (by omega) (by omega) (by omega)
    have n2 := num_any 13 1 (by omega) (by omega) (by omega)
    have n3 := num_any id 4 (by omega) hid.1 (by simpa using hid.2)
    have h := C.EncodeRotate id   _ _ _ hI (fun W => by rw [← hq]; exact hR W) n1 n2 n3 (by
      have a1 := num_size 1 1
      have a2 := num_size 13 1
      have a3 := num_size id 4
      omega) W
    refine h.mono ?_
    rintro e w' ⟨rfl, hb⟩
    refine ⟨?_, hb⟩
    simp only [txL, Pt.tx, hdr, app_assoc, app_nil]
    (try rfl)
  · intro hn W
    by_cases hid : 0 ≤ id ∧ id < 4294967296
    · exact C.Encode_no id _ true (okL []) (by rw [P.proto_idRight.f, if_pos hid.1, decide_eq_true hid.2]) hR (.inr ⟨rfl, by cases h : okL [] with | false => rfl | true => exact absurd ⟨h, hid⟩ hn⟩) W
    · exact C.Encode_no id _ false (okL []) (by rw [P.proto_idRight.f]; split <;> (first | rfl | (congr 1; exact decide_eq_false (by omega)))) hR (.inl rfl) W
end Go.Proofs.Ytfbcidfbgebbhaa.Pure
