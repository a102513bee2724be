/-
  The document's spread and the code's are the same.
-/
import Derived.Test.YtakbdknmfaoppaaB1
import Derived.Laws.BitsLemmas
namespace Go.Proofs.Ytakbdknmfaoppaa.Pure
set_option linter.unusedVariables false
set_option linter.unusedSimpArgs false
open Go.RowKit Go.Proofs.Ytakbdknmfaoppaa.R Go.Proofs.YtakbdknmfaoppaaW.PrintWords Go.Proofs.YtakbdknmfaoppaaW.PrintLast Go.Proofs.YtakbdknmfaoppaaW.PrintMore
theorem or_comm_ (k : IntKind) (x y : Int) : Go.bits .or k x y = Go.bits .or k y x := by
  unfold Go.bits
  simp only [BitVec.or_comm]
theorem right_rot (x n m : Int) (h1 : Go.bits .and .u64 (IntKind.u64.wrap (-n)) 31 = m) (h2 : IntKind.u64.wrap (32 - m) = n) (h3 : wrap64 (32 - n) = m) (h4 : 0 ≤ m) (h5 : 0 ≤ n) : P.bailiwickref03_right.f x n = some (rot x (-n)) := by
  unfold rot P.bailiwickref03_right.f P.bits_RotateLeft32.f
  rw [h1, h2, h3, if_pos h4, if_pos h5, if_pos h5, if_pos h4, or_comm_]
  rfl
theorem right_7 (x : Int) : P.bailiwickref03_right.f x 7 = some (rot x (-7)) := right_rot x 7 25 (by decide) (by decide) (by unfold wrap64; omega) (by decide) (by decide)
theorem right_18 (x : Int) : P.bailiwickref03_right.f x 18 = some (rot x (-18)) := right_rot x 18 14 (by decide) (by decide) (by unfold wrap64; omega) (by decide) (by decide)
theorem right_17 (x : Int) : P.bailiwickref03_right.f x 17 = some (rot x (-17)) := right_rot x 17 15 (by decide) (by decide) (by unfold wrap64; omega) (by decide) (by decide)
theorem right_19 (x : Int) : P.bailiwickref03_right.f x 19 = some (rot x (-19)) := right_rot x 19 13 (by decide) (by decide) (by unfold wrap64; omega) (by decide) (by decide)
theorem right_6 (x : Int) : P.bailiwickref03_right.f x 6 = some (rot x (-6)) := right_rot x 6 26 (by decide) (by decide) (by unfold wrap64; omega) (by decide) (by decide)
theorem right_11 (x : Int) : P.bailiwickref03_right.f x 11 = some (rot x (-11)) := right_rot x 11 21 (by decide) (by decide) (by unfold wrap64; omega) (by decide) (by decide)
theorem right_25 (x : Int) : P.bailiwickref03_right.f x 25 = some (rot x (-25)) := right_rot x 25 7 (by decide) (by decide) (by unfold wrap64; omega) (by decide) (by decide)
theorem right_2 (x : Int) : P.bailiwickref03_right.f x 2 = some (rot x (-2)) := right_rot x 2 30 (by decide) (by decide) (by unfold wrap64; omega) (by decide) (by decide)
theorem right_13 (x : Int) : P.bailiwickref03_right.f x 13 = some (rot x (-13)) := right_rot x 13 19 (by decide) (by decide) (by unfold wrap64; omega) (by decide) (by decide)
theorem right_22 (x : Int) : P.bailiwickref03_right.f x 22 = some (rot x (-22)) := right_rot x 22 10 (by decide) (by decide) (by unfold wrap64; omega) (by decide) (by decide)
/-! ### the first sixteen words -/
theorem wraps_u32 (n : Int) (h0 : 0 ≤ n) (h1 : n < 2 ^ 32) : IntKind.u32.wrap n = n := by rw [R.u32w]; omega
theorem or_add (i : Nat) (x y : Int) (hx0 : 0 ≤ x) (hx : x % 2 ^ i = 0) (hx1 : x < 2 ^ 32) (hy0 : 0 ≤ y) (hy : y < 2 ^ i) (hy1 : y < 2 ^ 32) : Go.bits .or .u32 x y = x + y :=
  bits_join .u32 32 (by decide) wraps_u32 i x y hx0 hx hx1 hy0 hy hy1
def wv (b : ByteArray) (i : Nat) : Int := bt b ((4 * i : Nat) : Int) * 16777216 + bt b ((4 * i + 1 : Nat) : Int) * 65536 + bt b ((4 * i + 2 : Nat) : Int) * 256 + bt b ((4 * i + 3 : Nat) : Int)
theorem ref_word (a b c d : Int) (ha : 0 ≤ a ∧ a ≤ 255) (hb : 0 ≤ b ∧ b ≤ 255) (hc : 0 ≤ c ∧ c ≤ 255) (hd : 0 ≤ d ∧ d ≤ 255) :
    Go.bits .or .u32 (Go.bits .or .u32 (Go.bits .or .u32 (((a % 4294967296) * 16777216) % 4294967296) (((b % 4294967296) * 65536) % 4294967296)) (((c % 4294967296) * 256) % 4294967296)) (d % 4294967296) = a * 16777216 + b * 65536 + c * 256 + d := by
  have e1 : ((a % 4294967296) * 16777216) % 4294967296 = a * 16777216 := by omega
  have e2 : ((b % 4294967296) * 65536) % 4294967296 = b * 65536 := by omega
  have e3 : ((c % 4294967296) * 256) % 4294967296 = c * 256 := by omega
  have e4 : d % 4294967296 = d := by omega
  rw [e1, e2, e3, e4, or_add 24 (a * 16777216) (b * 65536) (by omega) (by omega) (by omega) (by omega) (by omega) (by omega), or_add 16 (a * 16777216 + b * 65536) (c * 256) (by omega) (by omega) (by omega) (by omega) (by omega) (by omega), or_add 8 (a * 16777216 + b * 65536 + c * 256) d (by omega) (by omega) (by omega) (by omega) (by omega) (by omega)]
theorem set_mid (W rest : List Int) (i : Nat) (h : W.length = i) (x v : Int) : (W ++ x :: rest).set i v = W ++ v :: rest := by
  subst h
  simp
theorem get_mid (W rest : List Int) (i : Nat) (h : W.length = i) (x : Int) : (W ++ x :: rest).getD i 0 = x := by
  subst h
  simp
theorem st1_mid (b : ByteArray) (k i : Nat) (hk : k / 4 = i) (W rest : List Int) (h : W.length = i) (x : Int) (hx : 0 ≤ x ∧ x < 16777216) : st1 b k (W ++ x :: rest) = W ++ (x * 256 + bt b k) :: rest := by
  have hb := bt_range b k
  rw [st1, hk, get_mid W rest i h, set_mid W rest i h, show x * 256 % 4294967296 = x * 256 by omega, show bt b k % 4294967296 = bt b k by omega, or_add 8 _ _ (by omega) (by omega) (by omega) (by omega) (by omega) (by omega)]
theorem sp1_word (b : ByteArray) (f i : Nat) (W rest : List Int) (h : W.length = i) : sp1 b (f + 4) (4 * i) (W ++ 0 :: rest) = sp1 b f (4 * (i + 1)) ((W ++ [wv b i]) ++ rest) := by
  have h0 := bt_range b ((4 * i : Nat) : Int)
  have h1 := bt_range b ((4 * i + 1 : Nat) : Int)
  have h2 := bt_range b ((4 * i + 1 + 1 : Nat) : Int)
  have h3 := bt_range b ((4 * i + 1 + 1 + 1 : Nat) : Int)
  rw [sp1, sp1, sp1, sp1, st1_mid b (4 * i) i (by omega) W rest h 0 (by omega), st1_mid b (4 * i + 1) i (by omega) W rest h _ (by omega), st1_mid b (4 * i + 1 + 1) i (by omega) W rest h _ (by omega), st1_mid b (4 * i + 1 + 1 + 1) i (by omega) W rest h _ (by omega)]
  rw [show 4 * i + 1 + 1 + 1 + 1 = 4 * (i + 1) by omega, List.append_assoc, List.singleton_append]
  have e : (((0 * 256 + bt b ((4 * i : Nat) : Int)) * 256 + bt b ((4 * i + 1 : Nat) : Int)) * 256 + bt b ((4 * i + 1 + 1 : Nat) : Int)) * 256 + bt b ((4 * i + 1 + 1 + 1 : Nat) : Int) = wv b i := by
    unfold wv
    simp only [show 4 * i + 1 + 1 + 1 = 4 * i + 3 from rfl, show 4 * i + 1 + 1 = 4 * i + 2 from rfl]
    omega
  rw [e]
theorem sp1_words (b : ByteArray) : ∀ (d i f : Nat) (W rest : List Int), W.length = i → sp1 b (f + 4 * d) (4 * i) (W ++ (List.replicate d 0 ++ rest)) = sp1 b f (4 * (i + d)) (W ++ ((List.range' i d).map (wv b) ++ rest)) := by
  intro d
  induction d with
  | zero => intro i f W rest h; rfl
  | succ d ih =>
    intro i f W rest h
    rw [show f + 4 * (d + 1) = (f + 4 * d) + 4 by omega, List.replicate_succ, List.cons_append, sp1_word b _ i W _ h, ih (i + 1) f (W ++ [wv b i]) rest (by rw [List.length_append, h]; rfl)]
    rw [show i + 1 + d = i + (d + 1) by omega, List.range'_succ, List.map_cons, List.append_assoc]
    rfl
theorem sp1_all (b : ByteArray) : sp1 b 64 0 (List.replicate 64 0) = (List.range' 0 16).map (wv b) ++ List.replicate 48 0 := by
  have := sp1_words b 16 0 0 [] (List.replicate 48 0) rfl
  rw [sp1] at this
  exact this
/-! ### the other words -/
def nv (L : List Int) (k : Nat) : Int := IntKind.u32.wrap (IntKind.u32.wrap ((L.getD (k - 16) 0 + L.getD (k - 7) 0) % 4294967296 + sig0 (L.getD (k - 15) 0)) + sig1 (L.getD (k - 2) 0))
def grow : Nat → List Int → List Int
  | 0, L => L
  | f + 1, L => grow f (L ++ [nv L L.length])
theorem getD_left (L M : List Int) (j : Nat) (h : j < L.length) : (L ++ M).getD j 0 = L.getD j 0 := by
  simp [List.getD_eq_getElem?_getD, List.getElem?_append_left h]
theorem sp2_grow : ∀ (f k : Nat) (L : List Int), L.length = k → 16 ≤ k → sp2 f k (L ++ List.replicate f 0) = grow f L := by
  intro f
  induction f with
  | zero => intro k L h h2; simp [sp2, grow]
  | succ f ih =>
    intro k L h h2
    have e : st2 k (L ++ List.replicate (f + 1) 0) = (L ++ [nv L L.length]) ++ List.replicate f 0 := by
      rw [st2, va, getD_left _ _ _ (by omega), getD_left _ _ _ (by omega), getD_left _ _ _ (by omega), getD_left _ _ _ (by omega), List.replicate_succ, set_mid L _ k h, List.append_assoc, h]
      rfl
    rw [sp2, e, ih (k + 1) _ (by rw [List.length_append, h]; rfl) (by omega), grow]
theorem spread_impl (b : ByteArray) : spreadF b = grow 48 ((List.range' 0 16).map (wv b)) := by
  rw [spreadF, sp1_all, sp2_grow 48 16 _ (by simp) (by omega)]
theorem rd_nat (L : List Int) (k : Nat) : rd L (k : Int) = L.getD k 0 := by simp [rd]
theorem nv_ref (L : List Int) (k : Nat) : ((((sig1 (L.getD (k - 2) 0) + L.getD (k - 7) 0) % 4294967296) + sig0 (L.getD (k - 15) 0)) % 4294967296 + L.getD (k - 16) 0) % 4294967296 = nv L k := by
  unfold nv
  rw [R.u32w, R.u32w]
  omega
theorem ref_grow (m : Nat) : ∀ (d k : Nat) (L : List Int), L.length = k → 16 ≤ k → k + d = 64 → P.bailiwickref03_spread.l1 (m + d + 1) L (k : Int) = some (grow d L) := by
  intro d
  induction d with
  | zero =>
    intro k L h h2 h3
    rw [P.bailiwickref03_spread.l1, if_neg (by omega)]
    rfl
  | succ d ih =>
    intro k L h h2 h3
    have ht := ih (k + 1) (L ++ [nv L k]) (by rw [List.length_append, h]; rfl) (by omega) (by omega)
    have q0 : (k : Int) < 64 := by omega
    have q1 : (0 : Int) ≤ ((k - 15 : Nat) : Int) := by omega
    have q2 : ((k - 15 : Nat) : Int) < (L.length : Int) := by omega
    have q3 : (0 : Int) ≤ ((k - 2 : Nat) : Int) := by omega
    have q4 : ((k - 2 : Nat) : Int) < (L.length : Int) := by omega
    have q5 : (0 : Int) ≤ ((k - 7 : Nat) : Int) := by omega
    have q6 : ((k - 7 : Nat) : Int) < (L.length : Int) := by omega
    have q7 : (0 : Int) ≤ ((k - 16 : Nat) : Int) := by omega
    have q8 : ((k - 16 : Nat) : Int) < (L.length : Int) := by omega
    have q9 : L.length < 35184372088832 := by omega
    have w15 : wrap64 ((k : Int) - 15) = ((k - 15 : Nat) : Int) := by unfold wrap64; omega
    have w2 : wrap64 ((k : Int) - 2) = ((k - 2 : Nat) : Int) := by unfold wrap64; omega
    have w7 : wrap64 ((k : Int) - 7) = ((k - 7 : Nat) : Int) := by unfold wrap64; omega
    have w16 : wrap64 ((k : Int) - 16) = ((k - 16 : Nat) : Int) := by unfold wrap64; omega
    have w1 : wrap64 ((k : Int) + 1) = ((k + 1 : Nat) : Int) := by unfold wrap64; omega
    rw [show m + (d + 1) + 1 = (m + d + 1) + 1 by omega, P.bailiwickref03_spread.l1]
    rw [if_pos q0, w15, w2, w7, w16, w1, if_pos q1, if_pos q2, if_pos q3, if_pos q4, right_7, Option.bind_some, right_18, Option.bind_some, right_17, Option.bind_some, right_19, Option.bind_some, if_pos q5, if_pos q6, if_pos q7, if_pos q8, if_pos q9, rd_nat, rd_nat, rd_nat, rd_nat]
    rw [grow, h]
    have e := nv_ref L k
    unfold sig0 sig1 at e
    rw [e]
    exact ht
theorem ref_words (m : Nat) (b : ByteArray) (hb : b.size = 64) : ∀ (d i : Nat) (L : List Int), L.length = i → i + d = 16 → P.bailiwickref03_spread.l0 (m + d + 1) b L (i : Int) = P.bailiwickref03_spread.l1 m (L ++ (List.range' i d).map (wv b)) 16 := by
  intro d
  induction d with
  | zero =>
    intro i L h h3
    rw [P.bailiwickref03_spread.l0, if_neg (by omega)]
    simp
  | succ d ih =>
    intro i L h h3
    have ht := ih (i + 1) (L ++ [wv b i]) (by rw [List.length_append, h]; rfl) (by omega)
    have q0 : (i : Int) < 16 := by omega
    have q1 : (0 : Int) ≤ ((4 * i : Nat) : Int) := by omega
    have q2 : ((4 * i : Nat) : Int) < (b.size : Int) := by omega
    have q3 : (0 : Int) ≤ ((4 * i + 1 : Nat) : Int) := by omega
    have q4 : ((4 * i + 1 : Nat) : Int) < (b.size : Int) := by omega
    have q5 : (0 : Int) ≤ ((4 * i + 2 : Nat) : Int) := by omega
    have q6 : ((4 * i + 2 : Nat) : Int) < (b.size : Int) := by omega
    have q7 : (0 : Int) ≤ ((4 * i + 3 : Nat) : Int) := by omega
    have q8 : ((4 * i + 3 : Nat) : Int) < (b.size : Int) := by omega
    have q9 : L.length < 35184372088832 := by omega
    have w0 : wrap64 (4 * (i : Int)) = ((4 * i : Nat) : Int) := by unfold wrap64; omega
    have w1 : wrap64 (((4 * i : Nat) : Int) + 1) = ((4 * i + 1 : Nat) : Int) := by unfold wrap64; omega
    have w2 : wrap64 (((4 * i : Nat) : Int) + 2) = ((4 * i + 2 : Nat) : Int) := by unfold wrap64; omega
    have w3 : wrap64 (((4 * i : Nat) : Int) + 3) = ((4 * i + 3 : Nat) : Int) := by unfold wrap64; omega
    have w4 : wrap64 ((i : Int) + 1) = ((i + 1 : Nat) : Int) := by unfold wrap64; omega
    rw [show m + (d + 1) + 1 = (m + d + 1) + 1 by omega, P.bailiwickref03_spread.l0]
    rw [if_pos q0, w0, w1, w2, w3, w4, if_pos q1, if_pos q2, if_pos q3, if_pos q4, if_pos q5, if_pos q6, if_pos q7, if_pos q8, if_pos q9, ref_word _ _ _ _ (bt_range _ _) (bt_range _ _) (bt_range _ _) (bt_range _ _)]
    rw [show bt b ((4 * i : Nat) : Int) * 16777216 + bt b ((4 * i + 1 : Nat) : Int) * 65536 + bt b ((4 * i + 2 : Nat) : Int) * 256 + bt b ((4 * i + 3 : Nat) : Int) = wv b i from rfl, ht, List.range'_succ, List.map_cons, List.append_assoc]
    rfl
theorem spread_ref (b : ByteArray) (hb : b.size = 64) (k : Nat) (hk : 80 ≤ k) : P.bailiwickref03_spread.f k b = some (spreadF b) := by
  obtain ⟨m, rfl⟩ : ∃ m, k = m + 48 + 1 + 16 + 1 := ⟨k - 66, by omega⟩
  have h1 := ref_words (m + 48 + 1) b hb 16 0 [] rfl (by omega)
  have h2 := ref_grow m 48 16 ((List.range' 0 16).map (wv b)) (by simp) (by omega) (by omega)
  rw [spread_impl]
  unfold P.bailiwickref03_spread.f
  exact h1.trans h2
end Go.Proofs.Ytakbdknmfaoppaa.Pure
