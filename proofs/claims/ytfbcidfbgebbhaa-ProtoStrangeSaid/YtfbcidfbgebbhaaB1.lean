/-
  Plain law: an answer that is written is read as it was.
-/
import Derived.Test.YtfbcidfbgebbhaaB0
namespace Go.Proofs.Ytfbcidfbgebbhaa.Pure
set_option linter.unusedVariables false
set_option linter.unusedSimpArgs false
open Go.RowKit Go.Proofs.YtfbcidfbgebbhaaW.PrintWords Go.Proofs.YtfbcidfbgebbhaaW.PrintLast Go.Proofs.YtfbcidfbgebbhaaW.PrintMore
theorem son_append (x y : List Int) : strOfNums (x ++ y) = strOfNums x ++ strOfNums y := by
  apply ByteArray.ext
  apply Array.toList_inj.1
  simp [strOfNums, ByteArray.data_append]
theorem app_assoc (a b c : ByteArray) : a ++ b ++ c = a ++ (b ++ c) := by
  apply ByteArray.ext
  simp [ByteArray.data_append, Array.append_assoc]
theorem bt_app_l (a b : ByteArray) (i : Nat) (h : i < a.size) : bt (a ++ b) i = bt a i := by
  have h2 : i < (a ++ b).size := by rw [ByteArray.size_append]; omega
  have e := bt_at (a ++ b) (i : Int) (by simpa using h2)
  have e2 := bt_at a (i : Int) (by simpa using h)
  rw [← e, ← e2]
  congr 1
  simp only [Int.toNat_natCast]
  rw [ByteArray.getElem_append_left (h := by omega)]
theorem bt_app_r (a b : ByteArray) (i : Nat) (h : a.size ≤ i) (h3 : i < a.size + b.size) : bt (a ++ b) i = bt b ((i - a.size : Nat) : Int) := by
  have h2 : i < (a ++ b).size := by rw [ByteArray.size_append]; omega
  have e := bt_at (a ++ b) (i : Int) (by simpa using h2)
  have e2 := bt_at b ((i - a.size : Nat) : Int) (by simp; omega)
  rw [← e, ← e2]
  congr 1
  simp only [Int.toNat_natCast]
  exact congrArg UInt8.toNat (ByteArray.getElem_append_right h)
theorem bt_one (n : Int) (h0 : 0 ≤ n) (h1 : n < 256) : bt (strOfNums [n]) 0 = n := by
  have e := bt_at (strOfNums [n]) 0 (by rw [strOfNums_size]; simp)
  rw [← e]
  have e2 : (strOfNums [n])[(0 : Int).toNat]'(by rw [strOfNums_size]; simp) = UInt8.ofNat n.toNat := rfl
  rw [e2, UInt8.toNat_ofNat']
  omega
theorem de_be (r : ByteArray) : ∀ (s : Nat) (n : Int) (r : ByteArray), 0 ≤ n → n < 256 ^ s → de (strOfNums (be s n) ++ r) s = n
  | 0, n, r, h0, h1 => by simp at h1; simp [de]; omega
  | s + 1, n, r, h0, h1 => by
    have e : (256 : Int) ^ (s + 1) = 256 ^ s * 256 := rfl
    rw [e] at h1
    have hl : (strOfNums (be s (n / 256))).size = s := by rw [strOfNums_size, be_length]
    rw [be, son_append, app_assoc, de, de_be r s (n / 256) (strOfNums [n % 256] ++ r) (by omega) (by omega), bt_app_r _ _ s (by omega) (by rw [hl, ByteArray.size_append, strOfNums_size]; simp; omega), hl, Nat.sub_self]
    have q := bt_app_l (strOfNums [n % 256]) r 0 (by rw [strOfNums_size]; simp)
    have q2 := bt_one (n % 256) (by omega) (by omega)
    have z : ((0 : Nat) : Int) = 0 := rfl
    rw [z] at q ⊢
    rw [q, q2]
    omega
theorem ext_app (a b : ByteArray) (k : Nat) (h : a.size = k) : (a ++ b).extract k (a ++ b).size = b := by
  subst h
  apply ByteArray.ext
  rw [ByteArray.data_extract, ByteArray.data_append]
  rw [ByteArray.size_append]
  have e1 : (a.data ++ b.data).extract a.size (a.size + b.size) = (a.data ++ b.data).extract a.data.size (a.data.size + b.data.size) := rfl
  rw [e1, ← Array.size_append]
  apply Array.toList_inj.1
  rw [Array.toList_extract]
  simp only [Array.toList_append, List.extract_eq_take_drop, Array.size_append]
  rw [← Array.length_toList, ← Array.length_toList, List.drop_left]
  exact List.take_of_length_le (by rw [Array.length_toList]; omega)
theorem take_put (s : Nat) (n : Int) (r : ByteArray) (h1 : 1 ≤ s) (h8 : s ≤ 8) (h0 : 0 ≤ n) (hn : n < 256 ^ s) : P.num_Take.f 40 (strOfNums (be s n) ++ r) s = some (n, r, 0) := by
  have hl : (strOfNums (be s n)).size = s := by rw [strOfNums_size, be_length]
  rw [takeN _ s h1 h8, if_neg (by rw [ByteArray.size_append]; omega), de_be r s n r h0 hn, ext_app _ _ s hl]
theorem text_back (body : ByteArray) (h : body.size ≤ 255) : P.num_TakeText.f (strOfNums [(body.size : Int) % 256] ++ body) = some (body, ⟨#[]⟩, 0) := by
  have hs : (strOfNums [(body.size : Int) % 256]).size = 1 := by rw [strOfNums_size]; rfl
  have hz : (strOfNums [(body.size : Int) % 256] ++ body).size = 1 + body.size := by rw [ByteArray.size_append, hs]
  have q := bt_app_l (strOfNums [(body.size : Int) % 256]) body 0 (by omega)
  have q2 := bt_one ((body.size : Int) % 256) (by omega) (by omega)
  have z : ((0 : Nat) : Int) = 0 := rfl
  rw [z] at q
  rw [q2] at q
  have e : ((body.size : Int) % 256 + 1).toNat = 1 + body.size := by omega
  have x1 := ext_app (strOfNums [(body.size : Int) % 256]) body 1 hs
  rw [takeText_eq _ (by omega), if_neg (by omega), if_neg (by rw [q, hz]; omega), q, e]
  rw [hz] at x1 ⊢
  rw [x1]
  congr 3
  apply ByteArray.ext
  rw [ByteArray.data_extract]
  simp
end Go.Proofs.Ytfbcidfbgebbhaa.Pure
