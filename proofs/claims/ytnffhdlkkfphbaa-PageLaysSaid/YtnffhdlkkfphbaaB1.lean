/-
  Plain facts beneath the statements on pages: the reference's sum and page are the program's; a page that is opened.
-/
import Derived.Test.YtnffhdlkkfphbaaB0
import Derived.Test.YtnffhdlkkfphbaaGx2
import Derived.Lib.Bytes
namespace Go.Proofs.Ytnffhdlkkfphbaa.Pure
set_option linter.unusedVariables false
set_option linter.unusedSimpArgs false
open Go.RowKit Go.Proofs.Ytnffhdlkkfphbaa.G Go.Proofs.YtnffhdlkkfphbaaW.PrintWords Go.Proofs.YtnffhdlkkfphbaaW.PrintLast

theorem bt_nat (s : ByteArray) (i : Nat) (h : i < s.size) : bt s (i : Int) = ((s[i].toNat : Nat) : Int) := by
  unfold bt
  rw [dif_pos (by simpa using h)]
  rfl
theorem wraps_u32 (n : Int) (h0 : 0 ≤ n) (h1 : n < 2 ^ 32) : IntKind.u32.wrap n = n := by rw [IntKind.wrap_u32]; omega
theorem or_byte (a c : Nat) (ha : a < 16777216) (hc : c < 256) : bits .or .u32 (((a : Int) * 256) % 4294967296) ((c : Int) % 4294967296) = ((a * 256 + c : Nat) : Int) := by
  have h := bits_join .u32 32 (by decide) wraps_u32 8 ((a : Int) * 256) (c : Int) (by omega) (by omega) (by omega) (by omega) (by omega) (by omega)
  rw [show ((a : Int) * 256) % 4294967296 = (a : Int) * 256 by omega, show (c : Int) % 4294967296 = (c : Int) by omega, h]
  omega
theorem or_half (a b : Nat) (ha : a < 65521) (hb : b < 65521) : bits .or .u32 ((((b : Int) % 4294967296) * 65536) % 4294967296) ((a : Int) % 4294967296) = ((b * 65536 + a : Nat) : Int) := by
  have h := bits_join .u32 32 (by decide) wraps_u32 16 ((b : Int) * 65536) (a : Int) (by omega) (by omega) (by omega) (by omega) (by omega) (by omega)
  rw [show (((b : Int) % 4294967296) * 65536) % 4294967296 = (b : Int) * 65536 by omega, show (a : Int) % 4294967296 = (a : Int) by omega, h]
  omega
theorem tmod_nat (a b : Nat) : Int.tmod (a : Int) (b : Int) = ((a % b : Nat) : Int) := rfl
theorem rsum_l0 (s : ByteArray) (hs : s.size ≤ 140737488355328) : ∀ (d i : Nat), i + d = s.size → ∀ k, d < k → 
    bailiwickref07_Sum.l0 k s ((adPair (s.data.toList.take i)).1 : Nat) ((adPair (s.data.toList.take i)).2 : Nat) (i : Int) = some ((adl s.data.toList : Nat) : Int)
  | 0, i, hi, k, hk => by
    obtain ⟨k, rfl⟩ : ∃ q, k = q + 1 := ⟨k - 1, by omega⟩
    have h := adPair_lt (s.data.toList.take i)
    have e : s.data.toList.take i = s.data.toList := List.take_of_length_le (by simp; omega)
    simp only [bailiwickref07_Sum.l0]
    rw [if_neg (by omega), or_half _ _ h.1 h.2, e]
    rfl
  | d + 1, i, hi, k, hk => by
    obtain ⟨k, rfl⟩ : ∃ q, k = q + 1 := ⟨k - 1, by omega⟩
    have h := adPair_lt (s.data.toList.take i)
    have hlt : i < s.size := by omega
    have hb : s[i].toNat < 256 := s[i].toNat_lt
    have ih := rsum_l0 s hs d (i + 1) (by omega) k (by omega)
    rw [take_snoc s i hlt, adPair_snoc] at ih
    simp only [bailiwickref07_Sum.l0]
    rw [if_pos (by omega), if_pos (by omega), bt_nat s i hlt]
    generalize adPair (s.data.toList.take i) = p at *
    have e1 : Int.tmod (wrap64 ((p.1 : Int) + wrap64 ((s[i].toNat : Nat) : Int))) 65521 = (((p.1 + s[i].toNat) % 65521 : Nat) : Int) := by
      rw [show wrap64 ((p.1 : Int) + wrap64 ((s[i].toNat : Nat) : Int)) = ((p.1 + s[i].toNat : Nat) : Int) by unfold wrap64; omega]
      exact tmod_nat _ 65521
    have e2 : Int.tmod (wrap64 ((p.2 : Int) + (((p.1 + s[i].toNat) % 65521 : Nat) : Int))) 65521 = (((p.2 + (p.1 + s[i].toNat) % 65521) % 65521 : Nat) : Int) := by
      rw [show wrap64 ((p.2 : Int) + (((p.1 + s[i].toNat) % 65521 : Nat) : Int)) = ((p.2 + (p.1 + s[i].toNat) % 65521 : Nat) : Int) by unfold wrap64; omega]
      exact tmod_nat _ 65521
    rw [e1, e2, show wrap64 ((i : Int) + 1) = ((i + 1 : Nat) : Int) by unfold wrap64; omega]
    exact ih
theorem rsum_eq (s : ByteArray) (hs : s.size ≤ 140737488355328) (k : Nat) (hk : s.size < k) : bailiwickref07_Sum.f k s = some ((adl s.data.toList : Nat) : Int) :=
  rsum_l0 s hs s.size 0 (by omega) k hk
theorem psum_eq (s : ByteArray) (hs : s.size ≤ 140737488355328) : page_Sum.f s = some ((adl s.data.toList : Nat) : Int) := by
  unfold page_Sum.f
  rw [if_pos (by omega)]
theorem four_eq (n : Nat) : bailiwickref07_four.f (n : Int) = some ⟨(be4 n).toArray⟩ := by
  unfold bailiwickref07_four.f strOfNums be4
  congr 2
  have e : ∀ q : Nat, UInt8.ofNat ((q : Int) % 256).toNat = UInt8.ofNat q := by
    intro q
    apply UInt8.toNat_inj.1
    rw [show ((q : Int) % 256).toNat = q % 256 by omega]
    simp
  simp only [List.map_cons, List.map_nil]
  rw [show (n : Int) / 16777216 = ((n / 16777216 : Nat) : Int) by omega, show (n : Int) / 65536 = ((n / 65536 : Nat) : Int) by omega, show (n : Int) / 256 = ((n / 256 : Nat) : Int) by omega, e, e, e, e]

theorem size_mk (l : List UInt8) : (ByteArray.mk l.toArray).size = l.length := by simp [ByteArray.size]
theorem mk_append (l r : List UInt8) : ByteArray.mk l.toArray ++ ByteArray.mk r.toArray = ByteArray.mk (l ++ r).toArray := by
  apply ByteArray.ext
  simp [ByteArray.data_append]
theorem mk_data (s : ByteArray) : ByteArray.mk s.data.toList.toArray = s := by
  apply ByteArray.ext
  simp
theorem rseal_eq (kind : Int) (text : ByteArray) (hw : (Lit.int .i64 kind).wf = true) (hs : text.size ≤ 140737488351232) (k : Nat) (hk : 300 ≤ k) :
    bailiwickref07_Seal.f k kind text = some (if 1 ≤ kind ∧ kind ≤ 15 ∧ text.size ≤ 240 then (⟨(sealL kind.toNat text.data.toList).toArray⟩, true) else (⟨#[]⟩, false)) := by
  obtain ⟨k, rfl⟩ : ∃ q, k = q + 1 := ⟨k - 1, by omega⟩
  unfold bailiwickref07_Seal.f
  by_cases h1 : 1 ≤ kind
  · rw [if_neg (by omega)]
    by_cases h2 : kind ≤ 15
    · rw [if_neg (by omega)]
      simp only [bailiwickref07_Seal.j0]
      by_cases h3 : text.size ≤ 240
      · rw [if_neg (by simp; omega), if_pos ⟨h1, h2, h3⟩]
        obtain ⟨n, rfl⟩ := Int.eq_ofNat_of_zero_le (show 0 ≤ kind by omega)
        have ey : strOfNums [(n : Int) % 256, (text.size : Int) % 256] = ⟨([UInt8.ofNat n, UInt8.ofNat text.size]).toArray⟩ := by
          unfold strOfNums
          congr 2
          simp only [List.map_cons, List.map_nil]
          rw [show ((n : Int) % 256).toNat = n by omega, show ((text.size : Int) % 256).toNat = text.size by omega]
        have es : (ByteArray.mk ([UInt8.ofNat n, UInt8.ofNat text.size]).toArray).size = 2 := rfl
        have ez : wrap64 (252 - (((ByteArray.mk ([UInt8.ofNat n, UInt8.ofNat text.size]).toArray ++ text).size : Nat) : Int)) = ((250 - text.size : Nat) : Int) := by
          rw [ByteArray.size_append, es]; unfold wrap64; omega
        have er : strOfNums (List.replicate (250 - text.size) 0) = ⟨(List.replicate (250 - text.size) 0).toArray⟩ := by
          unfold strOfNums
          rw [List.map_replicate]
          rfl
        have eb : ByteArray.mk ([UInt8.ofNat n, UInt8.ofNat text.size]).toArray ++ text ++ ByteArray.mk (List.replicate (250 - text.size) (0 : UInt8)).toArray = ⟨(bodyL n text.data.toList).toArray⟩ := by
          rw [← mk_data text, mk_append, mk_append]
          simp only [mk_data]
          rfl
        have e250 : (ByteArray.mk (List.replicate (250 - text.size) (0 : UInt8)).toArray).size = 250 - text.size := by rw [size_mk, List.length_replicate]
        have hl := bodyL_length n text.data.toList h3
        have hsz : (ByteArray.mk (bodyL n text.data.toList).toArray).size = 252 := by rw [size_mk, hl]
        rw [Option.bind_some, ey, if_pos (by rw [es]; omega), ez, if_pos (by omega), Int.toNat_natCast, if_pos (by omega), Option.bind_some, er, if_pos (by rw [ByteArray.size_append, es, e250]; omega), eb, rsum_eq _ (by omega) k (by omega), Option.bind_some, four_eq, Option.bind_some]
        rw [if_pos (by rw [hsz, size_mk]; show 252 + 4 ≤ _; decide), mk_append]
        rfl
      · rw [if_pos (by simp; omega), if_neg (by omega)]
    · rw [if_pos (by omega), if_neg (by omega)]
      simp only [bailiwickref07_Seal.j0, if_true]
  · rw [if_pos (by omega), if_neg (by omega)]
    simp only [bailiwickref07_Seal.j0, if_true]

/-! ### a page that is opened -/
/-- Byte i. -/
def byteAt (b : ByteArray) (i : Nat) : Nat := (b.data.toList.getD i 0).toNat
theorem byteAt_lt (b : ByteArray) (i : Nat) : byteAt b i < 256 := UInt8.toNat_lt _
theorem bt_byteAt (b : ByteArray) (i : Nat) (h : i < b.size) : bt b (i : Int) = ((byteAt b i : Nat) : Int) := by
  rw [bt_nat b i h]
  unfold byteAt
  rw [List.getD_eq_getElem?_getD, List.getElem?_eq_getElem (by simpa using h)]
  rfl
def n4 (b : ByteArray) : Nat := ((byteAt b 252 * 256 + byteAt b 253) * 256 + byteAt b 254) * 256 + byteAt b 255
/-- The text that a page's bytes have room for. -/
def textOf (b : ByteArray) : ByteArray := b.extract 2 (2 + min (byteAt b 1) 250)
def openT (b : ByteArray) : Int × ByteArray × Int :=
  if adl (b.extract 0 252).data.toList = n4 b then
    (if 1 ≤ byteAt b 0 ∧ byteAt b 0 ≤ 15 ∧ (textOf b).size ≤ 240 ∧ (ByteArray.mk (sealL (byteAt b 0) (textOf b).data.toList).toArray).toList = b.toList then ((byteAt b 0 : Int), textOf b, 0) else (0, ⟨#[]⟩, 2))
  else (0, ⟨#[]⟩, 15)
theorem wrap_byte (b : ByteArray) (i : Nat) : wrap64 ((byteAt b i : Nat) : Int) = ((byteAt b i : Nat) : Int) := by
  have := byteAt_lt b i
  unfold wrap64
  omega
theorem seal_at (n : Nat) (t : ByteArray) : page_Seal.f (n : Int) t = some (if 1 ≤ n ∧ n ≤ 15 ∧ t.size ≤ 240 then (⟨(sealL n t.data.toList).toArray⟩, 0) else (⟨#[]⟩, 1)) := by
  unfold page_Seal.f
  by_cases h : 1 ≤ n ∧ n ≤ 15 ∧ t.size ≤ 240
  · rw [if_pos (by omega), if_pos h]
    rfl
  · rw [if_neg (by omega), if_neg h]
theorem open_round (b : ByteArray) (h : b.size = 256) (k n i : Nat) (hn : n < 16777216) (hi : i < 4) : page_Open.l0 (k + 1) b (n : Int) (i : Int) = page_Open.l0 k b ((n * 256 + byteAt b (252 + i) : Nat) : Int) ((i + 1 : Nat) : Int) := by
  have w0 : wrap64 (252 + (i : Int)) = ((252 + i : Nat) : Int) := by unfold wrap64; omega
  have w1 : wrap64 ((i : Int) + 1) = ((i + 1 : Nat) : Int) := by unfold wrap64; omega
  conv => lhs; unfold page_Open.l0
  rw [if_pos (by omega), w0, if_pos (by omega), if_pos (by omega), bt_byteAt b _ (by omega), or_byte n _ hn (byteAt_lt b _), w1]
theorem min_bounds (d : Nat) (h : d < 256) : mn (d : Int) 250 = ((min d 250 : Nat) : Int) ∧ wrap64 (2 + ((min d 250 : Nat) : Int)) = ((2 + min d 250 : Nat) : Int) ∧ (2 : Int) ≤ ((2 + min d 250 : Nat) : Int) ∧ ((2 + min d 250 : Nat) : Int) ≤ 256 := by
  refine ⟨?_, ?_, ?_, ?_⟩
  · unfold mn; omega
  · unfold wrap64; omega
  · omega
  · omega
theorem popen_eq (b : ByteArray) (h : b.size = 256) (k : Nat) (hk : 6 ≤ k) : page_Open.f k b = some (openT b) := by
  obtain ⟨k, rfl⟩ : ∃ q, k = q + 5 := ⟨k - 5, by omega⟩
  have c0 := byteAt_lt b 252
  have c1 := byteAt_lt b 253
  have c2 := byteAt_lt b 254
  have c3 := byteAt_lt b 255
  have d1 := byteAt_lt b 1
  have hb : (b.size : Int) = 256 := by omega
  have c4 := byteAt_lt b (252 + 0)
  have c5 := byteAt_lt b (252 + (0 + 1))
  have c6 := byteAt_lt b (252 + (0 + 1 + 1))
  unfold page_Open.f
  rw [if_pos hb, show (0 : Int) = ((0 : Nat) : Int) from rfl, open_round b h _ _ _ (by decide) (by decide), open_round b h _ _ _ (by omega) (by decide), open_round b h _ _ _ (by omega) (by decide), open_round b h _ _ _ (by omega) (by decide)]
  conv => lhs; unfold page_Open.l0
  rw [if_neg (by decide), if_pos (by decide), hb, if_pos (by decide)]
  rw [psum_eq _ (by simp [ByteArray.size_extract]; omega), Option.bind_some]
  unfold openT
  by_cases hs : adl (b.extract 0 252).data.toList = n4 b
  · have hs' : ((adl (b.extract 0 252).data.toList : Nat) : Int) = (((((0 * 256 + byteAt b (252 + 0)) * 256 + byteAt b (252 + (0 + 1))) * 256 + byteAt b (252 + (0 + 1 + 1))) * 256 + byteAt b (252 + (0 + 1 + 1 + 1)) : Nat) : Int) := by
      rw [hs]; unfold n4; simp
    have e1 : bt b 1 = ((byteAt b 1 : Nat) : Int) := bt_byteAt b 1 (by omega)
    have e0 : bt b 0 = ((byteAt b 0 : Nat) : Int) := bt_byteAt b 0 (by omega)
    obtain ⟨em, ew, f1, f2⟩ := min_bounds (byteAt b 1) d1
    have f3 : (1 : Int) < 256 := by decide
    have f4 : (0 : Int) < 256 := by decide
    rw [if_pos hs', if_pos f3]
    rw [e1, wrap_byte b 1, em]
    rw [ew]
    rw [if_pos f1]
    rw [if_pos f2]
    rw [if_pos f4, e0, wrap_byte b 0, Int.toNat_natCast, seal_at]
    have et : b.extract 2 (2 + min (byteAt b 1) 250) = textOf b := rfl
    rw [et, if_pos hs]
    by_cases hc : 1 ≤ byteAt b 0 ∧ byteAt b 0 ≤ 15 ∧ (textOf b).size ≤ 240
    · rw [if_pos hc, Option.bind_some]
      simp only
      rw [if_pos trivial]
      by_cases he : (ByteArray.mk (sealL (byteAt b 0) (textOf b).data.toList).toArray).toList = b.toList
      · rw [if_pos he, if_pos ⟨hc.1, hc.2.1, hc.2.2, he⟩]
      · rw [if_neg he, if_neg (fun h => he h.2.2.2)]
    · rw [if_neg hc, Option.bind_some]
      simp only
      rw [if_neg (by decide), if_neg (fun h => hc ⟨h.1, h.2.1, h.2.2.1⟩)]
  · rw [if_neg (by
      intro h2
      apply hs
      unfold n4
      exact (Int.ofNat_inj.1 h2).trans (by simp)), if_neg hs]
theorem popen_other (b : ByteArray) (h : b.size ≠ 256) (k : Nat) : page_Open.f k b = some (0, ⟨#[]⟩, 2) := by
  unfold page_Open.f
  rw [if_neg (by omega)]
theorem ropen_other (b : ByteArray) (h : b.size ≠ 256) (k : Nat) : bailiwickref07_Open.f k b = some (0, ⟨#[]⟩, 2) := by
  unfold bailiwickref07_Open.f
  rw [if_neg (by omega)]
theorem toList_mk (l : List UInt8) : (ByteArray.mk l.toArray).toList = l := by
  rw [Lib.toList_data]
theorem last_four (b : ByteArray) (h : b.size = 256) : (b.extract 252 b.size).toList = [UInt8.ofNat (byteAt b 252), UInt8.ofNat (byteAt b 253), UInt8.ofNat (byteAt b 254), UInt8.ofNat (byteAt b 255)] := by
  rw [Lib.toList_data]
  have hl : b.data.toList.length = 256 := h
  have e : (b.extract 252 b.size).data.toList = b.data.toList.drop 252 := by
    rw [ByteArray.data_extract, Array.toList_extract, h, List.extract_eq_take_drop, List.take_of_length_le (by rw [List.length_drop, hl]; decide)]
  have key : ∀ j (hj : j < 256), b.data.toList[j]? = some (UInt8.ofNat (byteAt b j)) := by
    intro j hj
    unfold byteAt
    rw [List.getD_eq_getElem?_getD, List.getElem?_eq_getElem (by omega)]
    simp
  rw [e]
  apply List.ext_getElem?
  intro i
  rw [List.getElem?_drop]
  match i with
  | 0 => rw [key _ (by omega)]; rfl
  | 1 => rw [key _ (by omega)]; rfl
  | 2 => rw [key _ (by omega)]; rfl
  | 3 => rw [key _ (by omega)]; rfl
  | i + 4 => rw [List.getElem?_eq_none (by omega)]; rfl
theorem be4_inj (t c0 c1 c2 c3 : Nat) (ht : t < 4294967296) (h0 : c0 < 256) (h1 : c1 < 256) (h2 : c2 < 256) (h3 : c3 < 256) :
    (be4 t = [UInt8.ofNat c0, UInt8.ofNat c1, UInt8.ofNat c2, UInt8.ofNat c3]) ↔ t = ((c0 * 256 + c1) * 256 + c2) * 256 + c3 := by
  unfold be4
  have e : ∀ a b : Nat, UInt8.ofNat a = UInt8.ofNat b ↔ a % 256 = b % 256 := by
    intro a b
    rw [← UInt8.toNat_inj]
    simp
  simp only [List.cons.injEq, and_true, e]
  omega
theorem ropen_eq (b : ByteArray) (h : b.size = 256) (k : Nat) (hk : 300 ≤ k) : bailiwickref07_Open.f k b = some (openT b) := by
  have d1 := byteAt_lt b 1
  have d0 := byteAt_lt b 0
  have hb : (b.size : Int) = 256 := by omega
  have f3 : (1 : Int) < 256 := by decide
  have f4 : (0 : Int) < 256 := by decide
  have hx : (b.extract 0 252).size = 252 := by simp [ByteArray.size_extract, h]
  have hadl := adl_lt (b.extract 0 252).data.toList
  have e1 : bt b 1 = ((byteAt b 1 : Nat) : Int) := bt_byteAt b 1 (by omega)
  have e0 : bt b 0 = ((byteAt b 0 : Nat) : Int) := bt_byteAt b 0 (by omega)
  unfold bailiwickref07_Open.f
  rw [if_pos hb, if_pos (by decide), hb, if_pos (by decide), rsum_eq _ (by omega) k (by omega), Option.bind_some, four_eq, Option.bind_some, toList_mk, last_four b h]
  unfold openT
  by_cases hs : adl (b.extract 0 252).data.toList = n4 b
  · rw [if_pos ((be4_inj _ _ _ _ _ hadl (byteAt_lt b _) (byteAt_lt b _) (byteAt_lt b _) (byteAt_lt b _)).2 hs), if_pos hs, if_pos f3, e1]
    by_cases h240 : byteAt b 1 ≤ 240
    · have g1 : ¬ ((byteAt b 1 : Nat) : Int) > 240 := by omega
      have g2 : wrap64 (2 + ((byteAt b 1 : Nat) : Int)) = ((2 + byteAt b 1 : Nat) : Int) := by unfold wrap64; omega
      have g3 : (2 : Int) ≤ ((2 + byteAt b 1 : Nat) : Int) := by omega
      have g4 : ((2 + byteAt b 1 : Nat) : Int) ≤ 256 := by omega
      have gw : (Lit.int .i64 ((byteAt b 0 : Nat) : Int)).wf = true := WalkArith.wf_i64 (by omega)
      have et : b.extract 2 (2 + byteAt b 1) = textOf b := by unfold textOf; rw [Nat.min_eq_left (by omega)]
      have hts : (textOf b).size ≤ 240 := by rw [← et]; simp only [ByteArray.size_extract]; omega
      rw [if_neg g1, if_pos f4, wrap_byte b 1, g2, if_pos g3, if_pos g4, e0, wrap_byte b 0, Int.toNat_natCast, et, rseal_eq _ _ gw (by omega) k hk]
      by_cases hc : 1 ≤ byteAt b 0 ∧ byteAt b 0 ≤ 15
      · have hcI : (1 : Int) ≤ ((byteAt b 0 : Nat) : Int) ∧ ((byteAt b 0 : Nat) : Int) ≤ 15 ∧ (textOf b).size ≤ 240 := ⟨by omega, by omega, hts⟩
        rw [if_pos hcI, Option.bind_some]
        simp only [Int.toNat_natCast]
        rw [if_pos trivial]
        by_cases he : (ByteArray.mk (sealL (byteAt b 0) (textOf b).data.toList).toArray).toList = b.toList
        · rw [if_pos he, if_pos ⟨hc.1, hc.2, hts, he⟩]
        · rw [if_neg he, if_neg (fun h => he h.2.2.2)]
      · have hcI : ¬ ((1 : Int) ≤ ((byteAt b 0 : Nat) : Int) ∧ ((byteAt b 0 : Nat) : Int) ≤ 15 ∧ (textOf b).size ≤ 240) := fun h => hc ⟨by omega, by omega⟩
        rw [if_neg hcI, Option.bind_some]
        simp only
        rw [if_neg (by decide), if_neg (fun h => hc ⟨h.1, h.2.1⟩)]
    · have g1 : ((byteAt b 1 : Nat) : Int) > 240 := by omega
      have hts : ¬ (textOf b).size ≤ 240 := by
        unfold textOf
        simp only [ByteArray.size_extract]
        omega
      rw [if_pos g1, if_neg (fun h => hts h.2.2.1)]
  · rw [if_neg (fun h2 => hs ((be4_inj _ _ _ _ _ hadl (byteAt_lt b _) (byteAt_lt b _) (byteAt_lt b _) (byteAt_lt b _)).1 h2)), if_neg hs]
end Go.Proofs.Ytnffhdlkkfphbaa.Pure
