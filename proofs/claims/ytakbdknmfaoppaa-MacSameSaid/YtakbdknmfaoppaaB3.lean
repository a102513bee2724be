/-
  The document's sum and the code's are the same; so are the digits.
-/
import Derived.Test.YtakbdknmfaoppaaB2
namespace Go.Proofs.Ytakbdknmfaoppaa.Pure
set_option linter.unusedVariables false
set_option linter.unusedSimpArgs false
open Go.RowKit Go.Proofs.Ytakbdknmfaoppaa.R Go.Proofs.YtakbdknmfaoppaaW.PrintWords Go.Proofs.YtakbdknmfaoppaaW.PrintLast Go.Proofs.YtakbdknmfaoppaaW.PrintMore
/-! ### what is put behind a text -/
theorem zB_succ (x : ByteArray) (d : Nat) : x ++ (⟨#[0]⟩ : ByteArray) ++ zB d = x ++ zB (d + 1) := by
  rw [ByteArray.append_assoc]
  congr 1
theorem zB_size (d : Nat) : (zB d).size = d := by
  show (Lib.repeatL ([0] : List UInt8) d).toArray.size = d
  rw [List.size_toArray, Lib.repeatL_length]
  simp
theorem pad_l0 (n : Int) : ∀ (d m : Nat) (x : ByteArray), (x.size + d) % 64 = 56 → d < 64 → x.size + d ≤ 2000000 → P.bailiwickref03_padded.l0 (m + d + 1) x n = P.bailiwickref03_padded.l1 m (x ++ zB d) n 7 := by
  intro d
  induction d with
  | zero =>
    intro m x h h2 h3
    have q : ((x.size : Int) % 64) = 56 := by omega
    rw [P.bailiwickref03_padded.l0, if_pos q, show x ++ zB 0 = x by apply ByteArray.ext; simp [zB, Lib.repeatL]]
  | succ d ih =>
    intro m x h h2 h3
    have q : ¬ ((x.size : Int) % 64) = 56 := by omega
    have q2 : x.size + 1 ≤ 9223372036854775807 := by omega
    have hs : (x ++ (⟨#[0]⟩ : ByteArray)).size = x.size + 1 := by rw [ByteArray.size_append]; rfl
    have := ih m (x ++ (⟨#[0]⟩ : ByteArray)) (by rw [hs]; omega) (by omega) (by omega)
    rw [show m + (d + 1) + 1 = (m + d + 1) + 1 by omega, P.bailiwickref03_padded.l0, if_neg q, if_pos q2, this, zB_succ]
theorem pad_l1 (n : Int) (m : Nat) : ∀ (f i : Nat) (x : ByteArray) (x4 : Int), i + f = 8 → x4 = 7 - (i : Int) → x.size + f ≤ 2000000 → P.bailiwickref03_padded.l1 (m + f + 1) x n x4 = some (pd n f i x) := by
  intro f
  induction f with
  | zero =>
    intro i x x4 h h2 h3
    have q : ¬ x4 ≥ 0 := by omega
    rw [P.bailiwickref03_padded.l1, if_neg q]
    rfl
  | succ f ih =>
    intro i x x4 h h2 h3
    have q : x4 ≥ 0 := by omega
    have e8 : (8 * x4).toNat = 56 - 8 * i := by omega
    have em : min (56 - 8 * i) 64 = 56 - 8 * i := by omega
    have q2 : (0 : Int) ≤ 8 * x4 := by omega
    have hs : (strOfNums [n / 2 ^ (56 - 8 * i) % 256]).size = 1 := rfl
    have q3 : x.size + (strOfNums [n / 2 ^ (56 - 8 * i) % 256]).size ≤ 9223372036854775807 := by omega
    have hn := ih (i + 1) (x ++ strOfNums [n / 2 ^ (56 - 8 * i) % 256]) (x4 - 1) (by omega) (by omega) (by rw [ByteArray.size_append]; omega)
    have w1 : wrap64 (8 * x4) = 8 * x4 := by unfold wrap64; omega
    have w2 : wrap64 (x4 - 1) = x4 - 1 := by unfold wrap64; omega
    have es : shr .u64 n (8 * x4) = n / 2 ^ (56 - 8 * i) := by
      unfold shr
      rw [e8, show IntKind.u64.bits = 64 from rfl, em]
    rw [show m + (f + 1) + 1 = (m + f + 1) + 1 by omega, P.bailiwickref03_padded.l1, if_pos q, w1, w2, if_pos q2, es, Option.bind_some, if_pos q3, hn]
    rfl
theorem padded_ref (s : ByteArray) (h : s.size ≤ 1000) (k : Nat) (hk : 100 ≤ k) : P.bailiwickref03_padded.f k s = some (padF s) := by
  obtain ⟨c, hc⟩ : ∃ c, (119 - s.size % 64) % 64 = c := ⟨_, rfl⟩
  have hc2 : c < 64 := by omega
  obtain ⟨m, rfl⟩ : ∃ m, k = (m + 8 + 1) + c + 1 := ⟨k - (10 + c), by omega⟩
  have hs : (s ++ (⟨#[128]⟩ : ByteArray)).size = s.size + 1 := by rw [ByteArray.size_append]; rfl
  have w : IntKind.u64.wrap (8 * (IntKind.u64.wrap (s.size : Int))) = (s.size : Int) * 8 := by
    rw [P.u64ww]
    simp [IntKind.wrap, IntKind.signed, IntKind.bits]
    omega
  have hz := zB_size c
  have h1 := pad_l0 ((s.size : Int) * 8) c (m + 8 + 1) (s ++ (⟨#[128]⟩ : ByteArray)) (by rw [hs]; omega) hc2 (by omega)
  have h2 := pad_l1 ((s.size : Int) * 8) m 8 0 (s ++ (⟨#[128]⟩ : ByteArray) ++ zB c) 7 (by omega) (by omega) (by rw [ByteArray.size_append, hs, hz]; omega)
  unfold P.bailiwickref03_padded.f
  rw [if_pos (by omega), w, h1, h2, padF, pad1, hc, ByteArray.append_assoc]
theorem pd_size (n : Int) : ∀ (f i : Nat) (p : ByteArray), (pd n f i p).size = p.size + f := by
  intro f
  induction f with
  | zero => intro i p; rfl
  | succ f ih => intro i p; rw [pd, ih, ByteArray.size_append, strOf_size]; simp; omega
theorem padF_size (s : ByteArray) (h : s.size ≤ 1000) : ∃ nb, (padF s).size = 64 * nb ∧ nb ≤ 18 := by
  have h2 : (padF s).size = s.size + (1 + (119 - s.size % 64) % 64) + 8 := by
    rw [padF, pd_size, pad1, ByteArray.size_append, ByteArray.size_append, zB_size]
    rfl
  exact ⟨(padF s).size / 64, by omega, by omega⟩
/-! ### a block -/
theorem t_eq (k w e f g h : Int) : ((((((h + S6 e) % 4294967296) + (Go.bits .xor .u32 (Go.bits .and .u32 e f) (Go.bits .and .u32 (Go.bits .xor .u32 4294967295 e) g))) % 4294967296) + k) % 4294967296 + w) % 4294967296 = tS k w e f g h := by
  unfold tS tt no32
  omega
theorem u_eq (a b c : Int) : (S2 a + uu a b c) % 4294967296 = uS a b c := by
  unfold uS
  omega
theorem rF_len (K W : List Int) : ∀ f i v, v.length = 8 → (rF K W f i v).length = 8 := by
  intro f
  induction f with
  | zero => intro i v h; exact h
  | succ f ih =>
    intro i v h
    rw [rF]
    apply ih
    match v, h with
    | [a, b, c, d, e, f, g, h], _ => rfl
theorem sum_l1 (m : Nat) (H K W : List Int) (p : ByteArray) (at_ : Int) (hK : K.length = 64) (hW : W.length = 64) : ∀ (d i : Nat) (v : List Int), v.length = 8 → i + d = 64 →
    Q.bailiwickref03_Sum.l1 (m + d + 1) H K p at_ W v (i : Int) = Q.bailiwickref03_Sum.l2 m H K p at_ (rF K W d i v) 0 := by
  intro d
  induction d with
  | zero =>
    intro i v h h2
    have q : ¬ (i : Int) < 64 := by omega
    rw [Q.bailiwickref03_Sum.l1, if_neg q]
    rfl
  | succ d ih =>
    intro i v h h2
    match v, h with
    | [a, b, c, d', e, f, g, h], _ =>
      have q : (i : Int) < 64 := by omega
      have q1 : (i : Int) < (K.length : Int) := by omega
      have q2 : (i : Int) < (W.length : Int) := by omega
      have q0 : (0 : Int) ≤ (i : Int) := by omega
      have hn := ih (i + 1) (rnd (K.getD i 0) (W.getD i 0) [a, b, c, d', e, f, g, h]) rfl (by omega)
      have w1 : wrap64 ((i : Int) + 1) = ((i + 1 : Nat) : Int) := by unfold wrap64; omega
      have r0 : rd [a, b, c, d', e, f, g, h] 0 = a := rfl
      have r1 : rd [a, b, c, d', e, f, g, h] 1 = b := rfl
      have r2 : rd [a, b, c, d', e, f, g, h] 2 = c := rfl
      have r3 : rd [a, b, c, d', e, f, g, h] 3 = d' := rfl
      have r4 : rd [a, b, c, d', e, f, g, h] 4 = e := rfl
      have r5 : rd [a, b, c, d', e, f, g, h] 5 = f := rfl
      have r6 : rd [a, b, c, d', e, f, g, h] 6 = g := rfl
      have r7 : rd [a, b, c, d', e, f, g, h] 7 = h := rfl
      have l8 : (([a, b, c, d', e, f, g, h] : List Int).length : Int) = 8 := rfl
      rw [show m + (d + 1) + 1 = (m + d + 1) + 1 by omega, Q.bailiwickref03_Sum.l1, if_pos q, l8, if_pos (by decide), if_pos (by decide), if_pos (by decide), r0, r1, r2, r3, r4, r5, r6, r7]
      rw [right_6, Option.bind_some, right_11, Option.bind_some, right_25, Option.bind_some, if_pos (by decide), if_pos (by decide), if_pos q0, if_pos q1, if_pos q2, right_2, Option.bind_some, right_13, Option.bind_some, right_22, Option.bind_some, if_pos (by decide), if_pos (by decide), if_pos (by decide), rd_nat, rd_nat, w1]
      have e1 := t_eq (K.getD i 0) (W.getD i 0) e f g h
      have e2 := u_eq a b c
      unfold S6 at e1
      unfold S2 uu at e2
      rw [e1, e2, rF, ← hn]
      rfl
theorem sum_l2 (m : Nat) (K : List Int) (p : ByteArray) (at_ : Int) (v : List Int) (hv : v.length = 8) : ∀ (d i : Nat) (h : List Int), h.length = 8 → i + d = 8 →
    Q.bailiwickref03_Sum.l2 (m + d + 1) h K p at_ v (i : Int) = Q.bailiwickref03_Sum.l0 m (ad v d i h) K p (wrap64 (at_ + 64)) := by
  intro d
  induction d with
  | zero =>
    intro i h hl h2
    have q : ¬ (i : Int) < 8 := by omega
    rw [Q.bailiwickref03_Sum.l2, if_neg q]
    rfl
  | succ d ih =>
    intro i h hl h2
    have q : (i : Int) < 8 := by omega
    have q0 : (0 : Int) ≤ (i : Int) := by omega
    have q1 : (i : Int) < (h.length : Int) := by omega
    have q2 : (i : Int) < (v.length : Int) := by omega
    have hn := ih (i + 1) (h.set i ((h.getD i 0 + v.getD i 0) % 4294967296)) (by rw [List.length_set]; exact hl) (by omega)
    have w1 : wrap64 ((i : Int) + 1) = ((i + 1 : Nat) : Int) := by unfold wrap64; omega
    rw [show m + (d + 1) + 1 = (m + d + 1) + 1 by omega, Q.bailiwickref03_Sum.l2, if_pos q, if_pos q0, if_pos q1, if_pos q2, w1, rd_nat, rd_nat, Int.toNat_natCast, hn]
    rfl
theorem sum_l3 (m : Nat) (h : List Int) (hl : h.length = 8) : ∀ (d i : Nat) (xs : List Int), xs.length = 4 * i → i + d = 8 →
    Q.bailiwickref03_Sum.l3 (m + d + 1) h xs (i : Int) = some (strOfNums (xs ++ outF (h.drop i))) := by
  intro d
  induction d with
  | zero =>
    intro i xs hx h2
    have q : ¬ (i : Int) < 8 := by omega
    rw [Q.bailiwickref03_Sum.l3, if_neg q, List.drop_of_length_le (by omega)]
    simp [outF]
  | succ d ih =>
    intro i xs hx h2
    have q : (i : Int) < 8 := by omega
    have q0 : (0 : Int) ≤ (i : Int) := by omega
    have q1 : (i : Int) < (h.length : Int) := by omega
    have hn := ih (i + 1) (xs ++ four (h.getD i 0)) (by rw [List.length_append, hx]; show 4 * i + 4 = _; omega) (by omega)
    have w1 : wrap64 ((i : Int) + 1) = ((i + 1 : Nat) : Int) := by unfold wrap64; omega
    have hg : h.getD i 0 = h[i]'(by omega) := by rw [List.getD_eq_getElem?_getD, List.getElem?_eq_getElem (by omega)]; rfl
    rw [show m + (d + 1) + 1 = (m + d + 1) + 1 by omega, Q.bailiwickref03_Sum.l3, if_pos q, if_pos q0, if_pos q1, Option.bind_some, w1, rd_nat]
    have hf : [h.getD i 0 / 16777216 % 256, h.getD i 0 / 65536 % 256, h.getD i 0 / 256 % 256, h.getD i 0 % 256] = four (h.getD i 0) := rfl
    rw [hf, if_pos (by rw [hx]; show 4 * i + 4 < _; omega), hn, List.drop_eq_getElem_cons (by omega : i < h.length), List.append_assoc, hg]
    rfl
theorem sum_l0 (p : ByteArray) (nb : Nat) (hp : p.size = 64 * nb) (hn : nb ≤ 18) : ∀ (d j : Nat) (h : List Int) (m : Nat), h.length = 8 → j + d = nb →
    Q.bailiwickref03_Sum.l0 (m + 100 + 75 * d) h K0 p ((64 * j : Nat) : Int) = some (strOfNums (outF (blk p d j h))) := by
  intro d
  induction d with
  | zero =>
    intro j h m hl h2
    have q : ¬ ((64 * j : Nat) : Int) < (p.size : Int) := by omega
    rw [show m + 100 + 75 * 0 = (m + 90 + 8 + 1) + 1 by omega, Q.bailiwickref03_Sum.l0, if_neg q]
    have := sum_l3 (m + 90) h hl 8 0 [] rfl rfl
    rw [List.nil_append, List.drop_zero] at this
    exact this
  | succ d ih =>
    intro j h m hl h2
    have q : ((64 * j : Nat) : Int) < (p.size : Int) := by omega
    have q0 : (0 : Int) ≤ ((64 * j : Nat) : Int) := by omega
    have q1 : ((64 * j : Nat) : Int) ≤ ((64 * j + 64 : Nat) : Int) := by omega
    have q2 : ((64 * j + 64 : Nat) : Int) ≤ (p.size : Int) := by omega
    have hxs : (p.extract (64 * j) (64 * j + 64)).size = 64 := by rw [ByteArray.size_extract]; omega
    have hsp := spread_ref (p.extract (64 * j) (64 * j + 64)) hxs (m + 100 + 75 * d + 8 + 1 + 64 + 1) (by omega)
    have hwl := spreadF_len (p.extract (64 * j) (64 * j + 64))
    have h1 := sum_l1 (m + 100 + 75 * d + 8 + 1) h K0 (spreadF (p.extract (64 * j) (64 * j + 64))) p ((64 * j : Nat) : Int) K0_len hwl 64 0 h hl rfl
    have h3 := sum_l2 (m + 100 + 75 * d) K0 p ((64 * j : Nat) : Int) (rF K0 (spreadF (p.extract (64 * j) (64 * j + 64))) 64 0 h) (rF_len _ _ _ _ _ hl) 8 0 h hl rfl
    have h4 := ih (j + 1) (mixF (p.extract (64 * j) (64 * j + 64)) K0 h) m (mixF_len _ _ _ hl) (by omega)
    have q3 : ([] : List Int).length + h.length < 35184372088832 := by rw [hl]; decide
    have w1 : wrap64 (((64 * j : Nat) : Int) + 64) = ((64 * j + 64 : Nat) : Int) := by unfold wrap64; omega
    rw [show m + 100 + 75 * (d + 1) = (m + 100 + 75 * d + 8 + 1 + 64 + 1) + 1 by omega, Q.bailiwickref03_Sum.l0, if_pos q, if_pos q0, w1, if_pos q1, if_pos q2, Int.toNat_natCast, Int.toNat_natCast, hsp, Option.bind_some, if_pos q3, List.nil_append]
    refine h1.trans (h3.trans ?_)
    rw [w1, blk]
    exact h4
theorem words_f : P.bailiwickref03_words.f = some K0 := by decide +kernel
theorem first_f : P.bailiwickref03_first.f = some H0 := by decide +kernel
theorem sum_ref (s : ByteArray) (h : s.size ≤ 1000) (k : Nat) (hk : 2000 ≤ k) : Q.bailiwickref03_Sum.f k s = some (sumB s) := by
  obtain ⟨nb, h1, h2⟩ := padF_size s h
  obtain ⟨m, hm⟩ : ∃ m, k = m + 100 + 75 * nb := ⟨k - (100 + 75 * nb), by omega⟩
  unfold Q.bailiwickref03_Sum.f
  rw [first_f, Option.bind_some, words_f, Option.bind_some, padded_ref s h k (by omega), Option.bind_some, hm]
  have := sum_l0 (padF s) nb h1 h2 nb 0 H0 m H0_len (by omega)
  rw [sumB, h1, Nat.mul_div_cancel_left nb (by omega : 0 < 64)]
  exact this
/-! ### digits -/
theorem dig_bt : ∀ n : Fin 16, bt DIG (n.val : Int) = ((hx n.val).toNat : Int) := by decide +kernel
def hexI (l : List UInt8) : List Int := l.map fun b => (b.toNat : Int)
theorem str_hexI (l : List UInt8) : strOfNums (hexI l) = ⟨l.toArray⟩ := by
  unfold strOfNums hexI
  apply ByteArray.ext
  simp [List.map_map, Function.comp_def]
theorem hex_l0 (s : ByteArray) (hs : s.size ≤ 1000) (m : Nat) : ∀ (d i : Nat) (xs : List Int), xs.length = 2 * i → i + d = s.size →
    P.bailiwickref03_Hex.l0 (m + d + 1) s DIG xs (i : Int) = some (strOfNums (xs ++ hexI (hexL (s.data.toList.drop i)))) := by
  intro d
  induction d with
  | zero =>
    intro i xs hxl h2
    have q : ¬ (i : Int) < (s.size : Int) := by omega
    have e : s.data.toList.length = s.size := by simp
    rw [P.bailiwickref03_Hex.l0, if_neg q, List.drop_of_length_le (by omega)]
    simp [hexL, hexI]
  | succ d ih =>
    intro i xs hxl h2
    have hi : i < s.size := by omega
    have e : s.data.toList.length = s.size := by simp
    have q : (i : Int) < (s.size : Int) := by omega
    have q0 : (0 : Int) ≤ (i : Int) := by omega
    have hb := bt_nat s i hi
    have hc := (s[i]'hi).toNat_lt
    have e1 : Int.tdiv (bt s (i : Int)) 16 % 256 = (((s[i]'hi).toNat / 16 : Nat) : Int) := by
      rw [hb, Int.tdiv_eq_ediv_of_nonneg (by omega)]
      omega
    have e2 : Int.tmod (bt s (i : Int)) 16 = (((s[i]'hi).toNat % 16 : Nat) : Int) := by
      rw [hb, Int.tmod_eq_emod_of_nonneg (by omega)]
      omega
    have q1 : (0 : Int) ≤ (((s[i]'hi).toNat / 16 : Nat) : Int) := by omega
    have q2 : (((s[i]'hi).toNat / 16 : Nat) : Int) < (DIG.size : Int) := by show _ < (16 : Int); omega
    have q3 : (0 : Int) ≤ (((s[i]'hi).toNat % 16 : Nat) : Int) := by omega
    have q4 : (((s[i]'hi).toNat % 16 : Nat) : Int) < (DIG.size : Int) := by show _ < (16 : Int); omega
    have d1 := dig_bt ⟨(s[i]'hi).toNat / 16, by omega⟩
    have d2 := dig_bt ⟨(s[i]'hi).toNat % 16, by omega⟩
    have hn := ih (i + 1) (xs ++ hexI [hx ((s[i]'hi).toNat / 16), hx ((s[i]'hi).toNat % 16)]) (by rw [List.length_append, hxl]; show 2 * i + 2 = _; omega) (by omega)
    have q5 : xs.length + (hexI [hx ((s[i]'hi).toNat / 16), hx ((s[i]'hi).toNat % 16)]).length < 140737488355328 := by rw [hxl]; show 2 * i + 2 < _; omega
    have hl : s.data.toList.drop i = s[i]'hi :: s.data.toList.drop (i + 1) := List.drop_eq_getElem_cons (by omega)
    have w1 : wrap64 ((i : Int) + 1) = ((i + 1 : Nat) : Int) := by unfold wrap64; omega
    rw [show m + (d + 1) + 1 = (m + d + 1) + 1 by omega, P.bailiwickref03_Hex.l0, if_pos q, if_pos q0, e1, e2, if_pos q1, if_pos q2, if_pos q3, if_pos q4, d1, d2, Option.bind_some, w1]
    have hq : [((hx ((s[i]'hi).toNat / 16)).toNat : Int), ((hx ((s[i]'hi).toNat % 16)).toNat : Int)] = hexI [hx ((s[i]'hi).toNat / 16), hx ((s[i]'hi).toNat % 16)] := rfl
    show (if xs.length + [((hx ((s[i]'hi).toNat / 16)).toNat : Int), ((hx ((s[i]'hi).toNat % 16)).toNat : Int)].length < 140737488355328 then P.bailiwickref03_Hex.l0 (m + d + 1) s DIG (xs ++ [((hx ((s[i]'hi).toNat / 16)).toNat : Int), ((hx ((s[i]'hi).toNat % 16)).toNat : Int)]) ((i + 1 : Nat) : Int) else none) = _
    rw [hq, if_pos q5, hn, hl, List.append_assoc]
    rfl
theorem hex_ref (s : ByteArray) (h : s.size ≤ 1000) (k : Nat) (hk : 1001 ≤ k) : P.bailiwickref03_Hex.f k s = some (hexB s) := by
  obtain ⟨m, rfl⟩ : ∃ m, k = m + s.size + 1 := ⟨k - (s.size + 1), by omega⟩
  have := hex_l0 s h m s.size 0 [] rfl (by omega)
  rw [List.nil_append, List.drop_zero, str_hexI] at this
  exact this
end Go.Proofs.Ytakbdknmfaoppaa.Pure
