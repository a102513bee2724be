/-
  The request that is made of an ask: what is known of it, and its size.
-/
import Derived.Test.YtfbcidfbgebbhaaE1
import Derived.Test.YtfbcidfbgebbhaaD1
import Derived.Test.YtfbcidfbgebbhaaD2
import Derived.Test.YtfbcidfbgebbhaaD3
namespace Go.Proofs.Ytfbcidfbgebbhaa.Pure
set_option linter.unusedVariables false
set_option linter.unusedSimpArgs false
open Go.RowKit Go.Proofs.YtfbcidfbgebbhaaW.PrintWords Go.Proofs.YtfbcidfbgebbhaaW.PrintLast Go.Proofs.YtfbcidfbgebbhaaW.PrintMore
open Go.Proofs.Ytfbcidfbgebbhaa.Q
theorem ones_zero : ∀ k, ones k 0 = 0
  | 0 => rfl
  | k + 1 => by simp [ones, ones_zero k]
theorem ones_more : ∀ (a b m : Nat), m < 2 ^ a → ones (a + b) m = ones a m
  | 0, b, m, h => by
    obtain rfl : m = 0 := by simpa using h
    rw [ones_zero, ones_zero]
  | a + 1, b, m, h => by
    rw [show a + 1 + b = (a + b) + 1 by omega, ones, ones, ones_more a b (m / 2) (by rw [Nat.pow_succ] at h; omega)]
def Pt.sz : Pt → Nat
  | .name s => 1 + s.size
  | .handle s => s.size
  | .mask n => 1 + ones 16 n.toNat
  | .letter _ => 2
  | .bool _ => 1
  | .num _ z _ _ => z
theorem Pt.tx_size (p : Pt) : p.tx.size = p.sz := by
  cases p with
  | name s => rw [Pt.tx, ByteArray.size_append, strOfNums_size]; rfl
  | handle s => rfl
  | mask n =>
    rw [Pt.tx, ByteArray.size_append, strOfNums_size, Pt.sz, ← lets_ones]
    rfl
  | letter c => rw [Pt.tx, ByteArray.size_append, strOfNums_size]; rfl
  | bool b => cases b <;> rfl
  | num n z lo hi => rw [Pt.tx, num_size]; rfl
def szL : List Pt → Nat
  | [] => 0
  | p :: l => p.sz + szL l
theorem txL_size : ∀ l, (txL l).size = szL l
  | [] => rfl
  | p :: l => by rw [txL, ByteArray.size_append, Pt.tx_size, txL_size l, szL]
theorem hdr_size (op id : Int) : (hdr op id).size = 6 := by
  rw [hdr, ByteArray.size_append, ByteArray.size_append, num_size, num_size, num_size]
def wantL (n L : Int) : List Int := [1 + n, 3 + n, 12 + L, 39 + n + L, 33, 29, 31, 30, 29, 58, 33, 0, 0]
/-- The place of an ask. -/
def placeOf (x : Int) : Int := if x < 0 then -(x + 1) else x
theorem place_le (x : Int) : 0 ≤ placeOf x := by unfold placeOf; split <;> omega
theorem place_hs (x : Int) : (0 ≤ x ∧ placeOf x = x) ∨ (x < 0 ∧ placeOf x = -(x + 1)) := by unfold placeOf; split <;> omega
theorem ask63 (n : Int) (h : 0 ≤ n ∧ n < 65536) : ones 16 n.toNat = ones 63 n.toNat := by
  rw [show 63 = 16 + 47 by rfl, ones_more 16 47 _ (by omega)]
set_option maxHeartbeats 1000000 in
theorem asked (id : Int) (x0 : Int) (x1 : ByteArray) (x2 : ByteArray) (x3 : ByteArray) (x4 : Int) (x5 : Int) (x6 : Int) (x7 : Int) (x8 : Int) (x9 : Int) (x10 : Bool) (x11 : Int) (x12 : Int) (hw : -9223372036854775808 ≤ x0) (hx1 : x1.size ≤ 140737488351232) (hx2 : x2.size ≤ 140737488351232) (hx3 : x3.size ≤ 140737488351232) :
    ∃ (v : Value) (op : Int) (l : List Pt), (∀ V : World, Calls Try.prog 9 #[.agg #[.int .i64 x0, .string x1, .string x2, .string x3, .int .i64 x4, .int .i64 x5, .int .i64 x6, .int .i64 x7, .int .i64 x8, .int .i32 x9, .bool x10, .int .i64 x11, .int .i64 x12]] V fun r V' => r = .returned v ∧ Below V.heap.size V V') ∧ Sum v op l id ∧ op = 1 + placeOf x0 % 13 ∧ (okL l = true → (szL l : Int) = (wantL x1.size (ones 63 x6.toNat)).getD (placeOf x0 % 13).toNat 0) := by
  have h0 := place_le x0
  have hs := place_hs x0
  generalize placeOf x0 = m at *
  obtain hj | hj | hj | hj | hj | hj | hj | hj | hj | hj | hj | hj | hj : m % 13 = 0 ∨ m % 13 = 1 ∨ m % 13 = 2 ∨ m % 13 = 3 ∨ m % 13 = 4 ∨ m % 13 = 5 ∨ m % 13 = 6 ∨ m % 13 = 7 ∨ m % 13 = 8 ∨ m % 13 = 9 ∨ m % 13 = 10 ∨ m % 13 = 11 ∨ m % 13 = 12 := by omega
  · refine ⟨_, _, _, C.madeHello x0 x1 x2 x3 x4 x5 x6 x7 x8 x9 x10 x11 x12 m h0 hj hw hs, sumHello x1 hx1 id, by rw [hj]; rfl, fun hok => ?_⟩
    rw [hj]
    simp [okL, Pt.ok] at hok
    simp [szL, Pt.sz, wantL]
    try omega
  · refine ⟨_, _, _, C.madeRegister x0 x1 x2 x3 x4 x5 x6 x7 x8 x9 x10 x11 x12 m h0 hj hw hs, sumRegister x1 x4 hx1 id, by rw [hj]; rfl, fun hok => ?_⟩
    rw [hj]
    simp [okL, Pt.ok] at hok
    simp [szL, Pt.sz, wantL]
    try omega
  · refine ⟨_, _, _, C.madeMint x0 x1 x2 x3 x4 x5 x6 x7 x8 x9 x10 x11 x12 m h0 hj hw hs, sumMint x5 x6 x7 x8  id, by rw [hj]; rfl, fun hok => ?_⟩
    rw [hj]
    simp [okL, Pt.ok] at hok
    have h63 := ask63 x6 (by omega)
    simp [szL, Pt.sz, wantL]
    try omega
  · refine ⟨_, _, _, C.madeDerive x0 x1 x2 x3 x4 x5 x6 x7 x8 x9 x10 x11 x12 m h0 hj hw hs, sumDerive x2 x1 x6 x7 x8 hx2 hx1 id, by rw [hj]; rfl, fun hok => ?_⟩
    rw [hj]
    simp [okL, Pt.ok] at hok
    have h63 := ask63 x6 (by omega)
    simp [szL, Pt.sz, wantL]
    try omega
  · refine ⟨_, _, _, C.madeRenew x0 x1 x2 x3 x4 x5 x6 x7 x8 x9 x10 x11 x12 m h0 hj hw hs, sumRenew x2 x8 hx2 id, by rw [hj]; rfl, fun hok => ?_⟩
    rw [hj]
    simp [okL, Pt.ok] at hok
    simp [szL, Pt.sz, wantL]
    try omega
  · refine ⟨_, _, _, C.madeValidate x0 x1 x2 x3 x4 x5 x6 x7 x8 x9 x10 x11 x12 m h0 hj hw hs, sumValidate x2 hx2 id, by rw [hj]; rfl, fun hok => ?_⟩
    rw [hj]
    simp [okL, Pt.ok] at hok
    simp [szL, Pt.sz, wantL]
    try omega
  · refine ⟨_, _, _, C.madeInvoke x0 x1 x2 x3 x4 x5 x6 x7 x8 x9 x10 x11 x12 m h0 hj hw hs, sumInvoke x2 x9 hx2 id, by rw [hj]; rfl, fun hok => ?_⟩
    rw [hj]
    simp [okL, Pt.ok] at hok
    simp [szL, Pt.sz, wantL]
    try omega
  · refine ⟨_, _, _, C.madeRevoke x0 x1 x2 x3 x4 x5 x6 x7 x8 x9 x10 x11 x12 m h0 hj hw hs, sumRevoke x2 x10 hx2 id, by rw [hj]; rfl, fun hok => ?_⟩
    rw [hj]
    simp [okL, Pt.ok] at hok
    simp [szL, Pt.sz, wantL]
    try omega
  · refine ⟨_, _, _, C.madeDelete x0 x1 x2 x3 x4 x5 x6 x7 x8 x9 x10 x11 x12 m h0 hj hw hs, sumDelete x2 hx2 id, by rw [hj]; rfl, fun hok => ?_⟩
    rw [hj]
    simp [okL, Pt.ok] at hok
    simp [szL, Pt.sz, wantL]
    try omega
  · refine ⟨_, _, _, C.madeMove x0 x1 x2 x3 x4 x5 x6 x7 x8 x9 x10 x11 x12 m h0 hj hw hs, sumMove x2 x3 hx2 hx3 id, by rw [hj]; rfl, fun hok => ?_⟩
    rw [hj]
    simp [okL, Pt.ok] at hok
    simp [szL, Pt.sz, wantL]
    try omega
  · refine ⟨_, _, _, C.madeList x0 x1 x2 x3 x4 x5 x6 x7 x8 x9 x10 x11 x12 m h0 hj hw hs, sumList x2 x11 x12 hx2 id, by rw [hj]; rfl, fun hok => ?_⟩
    rw [hj]
    simp [okL, Pt.ok] at hok
    simp [szL, Pt.sz, wantL]
    try omega
  · refine ⟨_, _, _, C.madeQuota x0 x1 x2 x3 x4 x5 x6 x7 x8 x9 x10 x11 x12 m h0 hj hw hs, sumQuota   id, by rw [hj]; rfl, fun hok => ?_⟩
    rw [hj]
    simp [okL, Pt.ok] at hok
    rfl
  · refine ⟨_, _, _, C.madeRotate x0 x1 x2 x3 x4 x5 x6 x7 x8 x9 x10 x11 x12 m h0 hj hw hs, sumRotate   id, by rw [hj]; rfl, fun hok => ?_⟩
    rw [hj]
    simp [okL, Pt.ok] at hok
    rfl
end Go.Proofs.Ytfbcidfbgebbhaa.Pure
