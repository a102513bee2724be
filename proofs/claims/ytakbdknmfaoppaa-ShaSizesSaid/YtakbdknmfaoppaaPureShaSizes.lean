/-
  The law ShaSizes in plain Lean: a sum has 32 bytes, a text's digits are twice as many as its bytes, and read by pairs they are it.
-/
import Derived.Test.YtakbdknmfaoppaaB1
namespace Go.Proofs.Ytakbdknmfaoppaa.Pure
open Go.RowKit Go.Proofs.Ytakbdknmfaoppaa.R Go.Proofs.Ytakbdknmfaoppaa.T Go.Proofs.YtakbdknmfaoppaaW.PrintWords Go.Proofs.YtakbdknmfaoppaaW.PrintLast
theorem digit_one : ∀ n : Fin 16, P.bailiwicklaw03_digit.f 1 ((hx n.val).toNat : Int) = some (n.val : Int) := by decide +kernel
theorem digit_f (n : Nat) (h : n < 16) (k : Nat) (hk : 1 ≤ k) : P.bailiwicklaw03_digit.f k ((hx n).toNat : Int) = some (n : Int) :=
  at_rounds (fun k => P.bailiwicklaw03_digit.mono _ k) hk (digit_one ⟨n, h⟩)
theorem hexL_at (l : List UInt8) : ∀ i, i < l.length → (hexL l).getD (2 * i) 0 = hx ((l.getD i 0).toNat / 16) ∧ (hexL l).getD (2 * i + 1) 0 = hx ((l.getD i 0).toNat % 16) := by
  induction l with
  | nil => intro i h; simp at h
  | cons a t ih =>
    intro i h
    have e : hexL (a :: t) = hx (a.toNat / 16) :: hx (a.toNat % 16) :: hexL t := rfl
    rw [e]
    cases i with
    | zero => exact ⟨rfl, rfl⟩
    | succ i =>
      have := ih i (by simpa using h)
      rw [show 2 * (i + 1) = 2 * i + 1 + 1 by omega]
      simpa using this
theorem bt_getD (s : ByteArray) (i : Nat) (h : i < s.size) : bt s (i : Int) = ((s.data.toList.getD i 0).toNat : Int) := by
  rw [bt_nat s i h]
  have h2 : i < s.data.toList.length := by simpa using h
  rw [List.getD_eq_getElem?_getD, List.getElem?_eq_getElem h2]
  rfl
theorem w64 (n : Int) (h : -1000000 ≤ n) (h2 : n ≤ 1000000) : wrap64 n = n := by unfold wrap64; omega
theorem pairs (c : Nat) (h : c < 256) : wrap64 (wrap64 (((c / 16 : Nat) : Int) * 16) + ((c % 16 : Nat) : Int)) = wrap64 (c : Int) := by
  rw [w64 (((c / 16 : Nat) : Int) * 16) (by omega) (by omega)]
  have e : ((c / 16 : Nat) : Int) * 16 + ((c % 16 : Nat) : Int) = (c : Int) := by omega
  rw [e]
theorem sizes_loop (x : ByteArray) (hs : x.size ≤ 1000) : ∀ d i k : Nat, i + d = x.size → d + 2 ≤ k → bailiwicklaw03_ShaSizes.l0 k x true (hexB x) (i : Int) = some true := by
  intro d
  induction d with
  | zero =>
    intro i k hi hk
    obtain ⟨m, rfl⟩ : ∃ m, k = m + 1 := ⟨k - 1, by omega⟩
    rw [bailiwicklaw03_ShaSizes.l0, if_neg (by omega)]
  | succ d ih =>
    intro i k hi hk
    obtain ⟨m, rfl⟩ : ∃ m, k = m + 1 := ⟨k - 1, by omega⟩
    have hlt : i < x.size := by omega
    have w1 : wrap64 (2 * (i : Int)) = ((2 * i : Nat) : Int) := by unfold wrap64; omega
    have w2 : wrap64 (((2 * i : Nat) : Int) + 1) = ((2 * i + 1 : Nat) : Int) := by unfold wrap64; omega
    have w3 : wrap64 ((i : Int) + 1) = ((i + 1 : Nat) : Int) := by unfold wrap64; omega
    have hz := hexB_size x
    have hh0 : (hexB x).data.toList = hexL x.data.toList := hexB_data x
    obtain ⟨hb, hhb⟩ : ∃ y, hexB x = y := ⟨_, rfl⟩
    rw [hhb] at hz hh0 ⊢
    rw [hhb] at ih
    have ha := hexL_at x.data.toList i (by simpa using hlt)
    have hc := UInt8.toNat_lt (x.data.toList.getD i 0)
    have q0 : (i : Int) < (x.size : Int) := by omega
    have q1 : (0 : Int) ≤ ((2 * i : Nat) : Int) := by omega
    have q2 : ((2 * i : Nat) : Int) < (hb.size : Int) := by omega
    have q3 : (0 : Int) ≤ ((2 * i + 1 : Nat) : Int) := by omega
    have q4 : ((2 * i + 1 : Nat) : Int) < (hb.size : Int) := by omega
    have q5 : (0 : Int) ≤ (i : Int) := by omega
    have b1 := bt_getD hb (2 * i) (by omega)
    have b2 := bt_getD hb (2 * i + 1) (by omega)
    have b3 := bt_getD x i hlt
    rw [hh0, ha.1] at b1
    rw [hh0, ha.2] at b2
    have d1 := digit_f ((x.data.toList.getD i 0).toNat / 16) (by omega) m (by omega)
    have d2 := digit_f ((x.data.toList.getD i 0).toNat % 16) (by omega) m (by omega)
    have q6 : wrap64 (wrap64 ((((x.data.toList.getD i 0).toNat / 16 : Nat) : Int) * 16) + (((x.data.toList.getD i 0).toNat % 16 : Nat) : Int)) = wrap64 (((x.data.toList.getD i 0).toNat : Nat) : Int) := by
      exact pairs _ hc
    clear hz ha hc hhb
    rw [bailiwicklaw03_ShaSizes.l0]
    rw [if_pos q0, w1, if_pos q1, if_pos q2, b1, d1, Option.bind_some, w2, if_pos q3, if_pos q4, b2, d2, Option.bind_some, if_pos q5, b3, if_pos q6, w3]
    exact ih (i + 1) m (by omega) (by omega)
theorem ShaSizes : bailiwicklaw03_ShaSizes.Pure := by
  intro a _
  have ha : (a.extract 0 (mn (a.size : Int) 1000).toNat).size ≤ 1000 := cut_size a 1000
  have ma := mn_le a.size 1000 (by decide)
  refine ⟨1003, ?_⟩
  unfold bailiwicklaw03_ShaSizes.f
  rw [ex_eq, Option.bind_some, if_pos rfl, if_pos ma.1, if_pos ma.2.2]
  generalize a.extract 0 (mn (a.size : Int) 1000).toNat = x at *
  rw [hex_f _ (by omega), Option.bind_some, if_pos (by rw [hexB_size]; unfold wrap64; omega), sum_f _ (by omega), Option.bind_some, if_pos (by rw [sumB_size]; rfl), Option.bind_some, if_pos (by omega)]
  rw [show x ++ (⟨#[]⟩ : ByteArray) = x by apply ByteArray.ext; simp, sum_f _ (by omega), Option.bind_some]
  rw [show ((sumB x).toList != (sumB x).toList) = false by simp, bailiwicklaw03_ShaSizes.j0, if_neg (by decide)]
  exact sizes_loop x ha x.size 0 1002 (by omega) (by omega)
end Go.Proofs.Ytakbdknmfaoppaa.Pure
