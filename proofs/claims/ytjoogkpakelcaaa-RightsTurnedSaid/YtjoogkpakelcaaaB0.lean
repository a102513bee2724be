/-
  Plain facts beneath the statements on rights: what the printed functions answer, in numbers and lists of bytes.
-/
import Derived.Test.YtjoogkpakelcaaaGx2
import Derived.Laws.Bits128
namespace Go.Proofs.Ytjoogkpakelcaaa.Pure
set_option linter.unusedVariables false
set_option linter.unusedSimpArgs false
open Go.RowKit Go.Proofs.Ytjoogkpakelcaaa.G Go.Proofs.YtjoogkpakelcaaaW.PrintWords Go.Proofs.YtjoogkpakelcaaaW.PrintLast

theorem right_eq (a : Int) : rights_right.f a = some (decide (0 ≤ a ∧ a < 65536)) := by
  unfold rights_right.f
  split
  · rename_i h; congr 1; simp; omega
  · rename_i h; congr 1; simp; omega
theorem mask_eq (a : Int) : bailiwickref05_mask.f a = some (decide (0 ≤ a ∧ a < 65536)) := by
  unfold bailiwickref05_mask.f
  split
  · rename_i h; congr 1; simp; omega
  · rename_i h; congr 1; simp; omega

/-- The letters' numbers, from bit i on. -/
def bitsOf (m i n : Nat) : List Nat := (List.range' i n).filter (fun j => m.testBit j)
theorem bitsOf_zero (m i : Nat) : bitsOf m i 0 = [] := rfl
theorem bitsOf_succ (m i n : Nat) : bitsOf m i (n + 1) = (if m.testBit i then [i] else []) ++ bitsOf m (i + 1) n := by
  unfold bitsOf
  rw [List.range'_succ, List.filter_cons]
  split <;> simp
theorem bitsOf_none (m : Nat) : ∀ n i, m / 2 ^ i = 0 → bitsOf m i n = []
  | 0, i, _ => rfl
  | n + 1, i, h => by
    have h0 : m.testBit i = false := by
      rw [Nat.testBit_eq_decide_div_mod_eq, h]; rfl
    rw [bitsOf_succ, h0, bitsOf_none m n (i + 1) (by rw [Nat.pow_succ, ← Nat.div_div_eq_div_mul, h])]
    rfl
theorem bitsOf_length (m : Nat) : ∀ n i, (bitsOf m i n).length ≤ n := fun n i => by
  unfold bitsOf
  have := List.length_filter_le (fun j => m.testBit j) (List.range' i n)
  simpa using this
/-- The letters. -/
def lets (m : Nat) : List UInt8 := (bitsOf m 0 16).map fun j => UInt8.ofNat (97 + j)

theorem and_one (x : Nat) (h : x < 2 ^ 63) : bits .and .i64 (x : Int) 1 = ((x % 2 : Nat) : Int) := by
  have := i64_and x 1 h (by decide)
  rw [Nat.and_one_is_mod] at this
  exact this
theorem mod_two_bit (m i : Nat) : m / 2 ^ i % 2 = if m.testBit i then 1 else 0 := by
  rw [Nat.testBit_eq_decide_div_mod_eq]
  have : m / 2 ^ i % 2 < 2 := Nat.mod_lt _ (by decide)
  by_cases h : m / 2 ^ i % 2 = 1
  · simp [h]
  · simp [h]; omega
theorem div_lt (m i : Nat) (h : m < 65536) : m / 2 ^ i < 65536 := Nat.lt_of_le_of_lt (Nat.div_le_self _ _) h

theorem text_l0 (m : Nat) (hm : m < 65536) : ∀ (d i : Nat), i + d = 16 → ∀ (k : Nat), d < k → ∀ acc : List Int, acc.length ≤ i →
    rights_Text.l0 k ((m / 2 ^ i : Nat) : Int) acc ((97 + i : Nat) : Int) = some (Go.runesBytes (acc ++ (bitsOf m i d).map fun j => ((97 + j : Nat) : Int)), true)
  | 0, i, hi, k, hk, acc, ha => by
    obtain ⟨k, rfl⟩ : ∃ q, k = q + 1 := ⟨k - 1, by omega⟩
    obtain rfl : i = 16 := by omega
    simp only [rights_Text.l0]
    rw [if_neg (by rw [Nat.div_eq_of_lt (by omega)]; simp), bitsOf_zero]
    simp
  | d + 1, i, hi, k, hk, acc, ha => by
    obtain ⟨k, rfl⟩ : ∃ q, k = q + 1 := ⟨k - 1, by omega⟩
    simp only [rights_Text.l0]
    by_cases h0 : m / 2 ^ i = 0
    · rw [if_neg (by rw [h0]; simp), bitsOf_none _ _ _ h0]
      simp
    · have hd := div_lt m i hm
      have e1 : (((m / 2 ^ i : Nat) : Int) / 2) = ((m / 2 ^ (i + 1) : Nat) : Int) := by rw [Nat.pow_succ, ← Nat.div_div_eq_div_mul]; omega
      have e2 : wrap32 (((97 + i : Nat) : Int) + 1) = ((97 + (i + 1) : Nat) : Int) := by unfold wrap32; omega
      have h0' : ((m / 2 ^ i : Nat) : Int) > 0 := by
        have := Nat.pos_of_ne_zero h0
        generalize m / 2 ^ i = q at this
        omega
      rw [if_pos h0', and_one _ (by omega), mod_two_bit, e1, e2]
      by_cases hb : m.testBit i = true
      · rw [if_neg (by simp [hb]), if_pos (by omega), text_l0 m hm d (i + 1) (by omega) k (by omega) _ (by simp; omega), bitsOf_succ, hb]
        simp
      · rw [if_pos (by simp [hb]), text_l0 m hm d (i + 1) (by omega) k (by omega) _ (by omega), bitsOf_succ]
        simp [hb]

theorem rtext_l0 (m : Nat) (hm : m < 65536) : ∀ (d i : Nat), i + d = 16 → ∀ (k : Nat), d < k → ∀ acc : List Int, acc.length ≤ i →
    bailiwickref05_Text.l0 k (m : Int) acc (i : Int) = some (strOfNums (acc ++ (bitsOf m i d).map fun j => ((97 + j : Nat) : Int)), true)
  | 0, i, hi, k, hk, acc, ha => by
    obtain ⟨k, rfl⟩ : ∃ q, k = q + 1 := ⟨k - 1, by omega⟩
    obtain rfl : i = 16 := by omega
    simp only [bailiwickref05_Text.l0]
    rw [if_neg (by omega), bitsOf_zero]
    simp
  | d + 1, i, hi, k, hk, acc, ha => by
    obtain ⟨k, rfl⟩ : ∃ q, k = q + 1 := ⟨k - 1, by omega⟩
    simp only [bailiwickref05_Text.l0]
    have hd := div_lt m i hm
    have e1 : shr .i64 (m : Int) (i : Int) = ((m / 2 ^ i : Nat) : Int) := by
      unfold shr
      simp [IntKind.bits, show min i 64 = i by omega]
    have e2 : wrap64 ((i : Int) + 1) = ((i + 1 : Nat) : Int) := by unfold wrap64; omega
    have e3 : wrap64 (97 + (i : Int)) % 256 = ((97 + i : Nat) : Int) := by unfold wrap64; omega
    rw [if_pos (by omega), if_pos (by omega), e1, and_one _ (by omega), mod_two_bit, e2, e3]
    by_cases hb : m.testBit i = true
    · rw [if_pos (by simp [hb]), if_pos (by omega), rtext_l0 m hm d (i + 1) (by omega) k (by omega) _ (by simp; omega), bitsOf_succ, hb]
      simp
    · rw [if_neg (by simp [hb]), rtext_l0 m hm d (i + 1) (by omega) k (by omega) _ (by omega), bitsOf_succ]
      simp [hb]

theorem runesBytes_ascii : ∀ (l : List Nat), (∀ x ∈ l, x < 128) → ∀ s : ByteArray, (l.map (fun (x : Nat) => (x : Int))).foldl (fun r n => r ++ Utf8.encode n) s = s ++ ⟨(l.map UInt8.ofNat).toArray⟩
  | [], _, s => by
    apply ByteArray.ext
    simp [ByteArray.data_append]
  | x :: l, h, s => by
    have hx := h x (by simp)
    have e : Utf8.encode (x : Int) = ⟨#[UInt8.ofNat x]⟩ := by
      unfold Utf8.encode Utf8.valid
      have h1 : (decide ((0 : Int) ≤ (x : Int)) && decide ((x : Int) < 0xD800) || decide ((0xE000 : Int) ≤ (x : Int)) && decide ((x : Int) ≤ 0x10FFFF)) = true := by
        simp; omega
      simp only [h1, if_true, Int.toNat_natCast]
      rw [if_pos (by omega)]
    rw [List.map_cons, List.foldl_cons, runesBytes_ascii l (fun y hy => h y (by simp [hy])), e]
    apply ByteArray.ext
    simp [ByteArray.data_append]
theorem bitsOf_lt (m n i j : Nat) (h : j ∈ bitsOf m i n) : j < i + n := by
  unfold bitsOf at h
  have := (List.mem_filter.1 h).1
  rw [List.mem_range'] at this
  obtain ⟨q, h1, h2⟩ := this
  omega

theorem text_eq (m : Nat) (hm : m < 65536) (k : Nat) (hk : 17 ≤ k) : rights_Text.f k (m : Int) = some (⟨(lets m).toArray⟩, true) := by
  unfold rights_Text.f
  have h := text_l0 m hm 16 0 rfl k (by omega) [] (by simp)
  simp only [Nat.pow_zero, Nat.div_one, Nat.add_zero, List.nil_append] at h
  rw [right_eq, Option.bind_some, if_pos (by simp; omega)]
  rw [show (97 : Int) = ((97 : Nat) : Int) from rfl, h]
  unfold Go.runesBytes lets
  have h2 := runesBytes_ascii ((bitsOf m 0 16).map fun j => 97 + j) (fun x hx => by
    obtain ⟨j, hj, rfl⟩ := List.mem_map.1 hx
    have := bitsOf_lt _ _ _ _ hj
    omega) ByteArray.empty
  rw [List.map_map, List.map_map] at h2
  rw [show (fun j : Nat => ((97 + j : Nat) : Int)) = ((fun (x : Nat) => (x : Int)) ∘ fun j => 97 + j) from rfl, h2]
  simp [Function.comp_def]
theorem rtext_eq (m : Nat) (hm : m < 65536) (k : Nat) (hk : 17 ≤ k) : bailiwickref05_Text.f k (m : Int) = some (⟨(lets m).toArray⟩, true) := by
  unfold bailiwickref05_Text.f
  have h := rtext_l0 m hm 16 0 rfl k (by omega) [] (by simp)
  simp only [List.nil_append] at h
  rw [mask_eq, Option.bind_some, if_pos (by simp; omega), show (0 : Int) = ((0 : Nat) : Int) from rfl, h]
  congr 2
  unfold strOfNums lets
  simp [List.map_map, Function.comp_def]
  intro a _
  rw [show (97 + (a : Int)).toNat = 97 + a by omega]
  simp
theorem text_none (a : Int) (h : ¬ (0 ≤ a ∧ a < 65536)) (k : Nat) : rights_Text.f k a = some (⟨#[]⟩, false) := by
  unfold rights_Text.f
  rw [right_eq, Option.bind_some, if_neg (by simp; omega)]
theorem rtext_none (a : Int) (h : ¬ (0 ≤ a ∧ a < 65536)) (k : Nat) : bailiwickref05_Text.f k a = some (⟨#[]⟩, false) := by
  unfold bailiwickref05_Text.f
  rw [mask_eq, Option.bind_some, if_neg (by simp; omega)]

/-! ### how many -/
def pc (m : Nat) : Nat := (bitsOf m 0 16).length
/-- A round of the count. -/
def o1 (x : Int) : Int := IntKind.u64.wrap ((bits .and .u64 (x / 2) 6148914691236517205) + (bits .and .u64 x 6148914691236517205))
def o2 (x : Int) : Int := IntKind.u64.wrap ((bits .and .u64 (x / 4) 3689348814741910323) + (bits .and .u64 x 3689348814741910323))
def o3 (x : Int) : Int := bits .and .u64 (IntKind.u64.wrap ((x / 16) + x)) 1085102592571150095
def o4 (d x : Int) : Int := IntKind.u64.wrap (x + (x / d))
set_option maxRecDepth 100000 in
theorem ones_steps (x : Int) : bits_OnesCount64.f x = some (bits .and .i64 (wrap64 (o4 4294967296 (o4 65536 (o4 256 (o3 (o2 (o1 x))))))) 127) := rfl
theorem u64_and_n (a b : Nat) (ha : a < 2 ^ 64) (hb : b < 2 ^ 64) : bits .and .u64 (a : Int) (b : Int) = ((a &&& b : Nat) : Int) :=
  (bits_nat .u64 64 (by decide) (fun n h0 h1 => by simp [IntKind.wrap, IntKind.bits, IntKind.signed]; omega) a b ha hb).1
theorem u64_wrap_n (a : Nat) : IntKind.u64.wrap (a : Int) = ((a % 18446744073709551616 : Nat) : Int) := by
  simp [IntKind.wrap, IntKind.bits, IntKind.signed]
def n1 (x : Nat) : Nat := ((x / 2 &&& 6148914691236517205) + (x &&& 6148914691236517205)) % 18446744073709551616
def n2 (x : Nat) : Nat := ((x / 4 &&& 3689348814741910323) + (x &&& 3689348814741910323)) % 18446744073709551616
def n3 (x : Nat) : Nat := ((x / 16 + x) % 18446744073709551616) &&& 1085102592571150095
def n4 (d x : Nat) : Nat := (x + x / d) % 18446744073709551616
theorem o1_n (x : Nat) (h : x < 2 ^ 64) : o1 (x : Int) = ((n1 x : Nat) : Int) := by
  unfold o1 n1
  rw [show (x : Int) / 2 = ((x / 2 : Nat) : Int) from rfl, show (6148914691236517205 : Int) = ((6148914691236517205 : Nat) : Int) from rfl, u64_and_n _ _ (by omega) (by omega), u64_and_n _ _ h (by omega), ← Int.natCast_add, u64_wrap_n]
theorem o2_n (x : Nat) (h : x < 2 ^ 64) : o2 (x : Int) = ((n2 x : Nat) : Int) := by
  unfold o2 n2
  rw [show (x : Int) / 4 = ((x / 4 : Nat) : Int) from rfl, show (3689348814741910323 : Int) = ((3689348814741910323 : Nat) : Int) from rfl, u64_and_n _ _ (by omega) (by omega), u64_and_n _ _ h (by omega), ← Int.natCast_add, u64_wrap_n]
theorem o3_n (x : Nat) : o3 (x : Int) = ((n3 x : Nat) : Int) := by
  unfold o3 n3
  rw [show (x : Int) / 16 = ((x / 16 : Nat) : Int) from rfl, ← Int.natCast_add, u64_wrap_n, show (1085102592571150095 : Int) = ((1085102592571150095 : Nat) : Int) from rfl, u64_and_n _ _ (by omega) (by omega)]
theorem o4_n (d x : Nat) : o4 (d : Int) (x : Int) = ((n4 d x : Nat) : Int) := by
  unfold o4 n4
  rw [← Int.natCast_ediv, ← Int.natCast_add, u64_wrap_n]
def nn0 (m : Nat) : Nat := n4 4294967296 (n4 65536 (n4 256 (n3 (n2 (n1 m)))))
def nn (m : Nat) : Nat := nn0 m % 128
/-- All numbers from o on, 2 ^ d of them. -/
def allR (p : Nat → Bool) : Nat → Nat → Bool
  | 0, o => p o
  | d + 1, o => allR p d o && allR p d (o + 2 ^ d)
theorem allR_at (p : Nat → Bool) : ∀ d o, allR p d o = true → ∀ x, o ≤ x → x < o + 2 ^ d → p x = true
  | 0, o, h, x, h1, h2 => by
    obtain rfl : x = o := by simp at h2; omega
    exact h
  | d + 1, o, h, x, h1, h2 => by
    rw [allR, Bool.and_eq_true] at h
    rw [Nat.pow_succ] at h2
    by_cases hx : x < o + 2 ^ d
    · exact allR_at p d o h.1 x h1 hx
    · exact allR_at p d (o + 2 ^ d) h.2 x (by omega) (by omega)
/-- How many bits, by halves. -/
def pcd : Nat → Nat → Nat
  | 0, _ => 0
  | n + 1, m => m % 2 + pcd n (m / 2)
theorem pcd_eq (m : Nat) : ∀ n i, pcd n (m / 2 ^ i) = (bitsOf m i n).length
  | 0, i => rfl
  | n + 1, i => by
    rw [pcd, bitsOf_succ, Nat.div_div_eq_div_mul, ← Nat.pow_succ, pcd_eq m n (i + 1), mod_two_bit]
    split <;> simp <;> omega
def nnR (m : Nat) : Nat :=
  (fun a => (fun b => (fun c => (fun d => (fun e => Nat.mod (Nat.mod (Nat.add e (Nat.div e 4294967296)) 18446744073709551616) 128) (Nat.mod (Nat.add d (Nat.div d 65536)) 18446744073709551616)) (Nat.mod (Nat.add c (Nat.div c 256)) 18446744073709551616)) (Nat.land (Nat.mod (Nat.add (Nat.div b 16) b) 18446744073709551616) 1085102592571150095)) (Nat.mod (Nat.add (Nat.land (Nat.div a 4) 3689348814741910323) (Nat.land a 3689348814741910323)) 18446744073709551616)) (Nat.mod (Nat.add (Nat.land (Nat.div m 2) 6148914691236517205) (Nat.land m 6148914691236517205)) 18446744073709551616)
theorem nnR_eq (m : Nat) : nnR m = nn m := rfl
def nnOk (m : Nat) : Bool := Nat.beq (nnR m) (Nat.add (nnR (Nat.div m 2)) (Nat.mod m 2))
theorem nn_all0 : allR nnOk 12 0 = true := by decide +kernel
theorem nn_all1 : allR nnOk 12 4096 = true := by decide +kernel
theorem nn_all2 : allR nnOk 12 8192 = true := by decide +kernel
theorem nn_all3 : allR nnOk 12 12288 = true := by decide +kernel
theorem nn_all4 : allR nnOk 12 16384 = true := by decide +kernel
theorem nn_all5 : allR nnOk 12 20480 = true := by decide +kernel
theorem nn_all6 : allR nnOk 12 24576 = true := by decide +kernel
theorem nn_all7 : allR nnOk 12 28672 = true := by decide +kernel
theorem nn_all8 : allR nnOk 12 32768 = true := by decide +kernel
theorem nn_all9 : allR nnOk 12 36864 = true := by decide +kernel
theorem nn_all10 : allR nnOk 12 40960 = true := by decide +kernel
theorem nn_all11 : allR nnOk 12 45056 = true := by decide +kernel
theorem nn_all12 : allR nnOk 12 49152 = true := by decide +kernel
theorem nn_all13 : allR nnOk 12 53248 = true := by decide +kernel
theorem nn_all14 : allR nnOk 12 57344 = true := by decide +kernel
theorem nn_all15 : allR nnOk 12 61440 = true := by decide +kernel
theorem nn_step (m : Nat) (h : m < 65536) : nn m = nn (m / 2) + m % 2 := by
  have hk : nnOk m = true := by
    have : m / 4096 < 16 := by omega
    have hm : m = 4096 * (m / 4096) + m % 4096 := by omega
    have hl : m % 4096 < 4096 := Nat.mod_lt _ (by decide)
    generalize m / 4096 = q at this hm
    rcases (show q = 0 ∨ q = 1 ∨ q = 2 ∨ q = 3 ∨ q = 4 ∨ q = 5 ∨ q = 6 ∨ q = 7 ∨ q = 8 ∨ q = 9 ∨ q = 10 ∨ q = 11 ∨ q = 12 ∨ q = 13 ∨ q = 14 ∨ q = 15 by omega) with rfl | rfl | rfl | rfl | rfl | rfl | rfl | rfl | rfl | rfl | rfl | rfl | rfl | rfl | rfl | rfl
    · exact allR_at _ 12 _ nn_all0 m (by omega) (by omega)
    · exact allR_at _ 12 _ nn_all1 m (by omega) (by omega)
    · exact allR_at _ 12 _ nn_all2 m (by omega) (by omega)
    · exact allR_at _ 12 _ nn_all3 m (by omega) (by omega)
    · exact allR_at _ 12 _ nn_all4 m (by omega) (by omega)
    · exact allR_at _ 12 _ nn_all5 m (by omega) (by omega)
    · exact allR_at _ 12 _ nn_all6 m (by omega) (by omega)
    · exact allR_at _ 12 _ nn_all7 m (by omega) (by omega)
    · exact allR_at _ 12 _ nn_all8 m (by omega) (by omega)
    · exact allR_at _ 12 _ nn_all9 m (by omega) (by omega)
    · exact allR_at _ 12 _ nn_all10 m (by omega) (by omega)
    · exact allR_at _ 12 _ nn_all11 m (by omega) (by omega)
    · exact allR_at _ 12 _ nn_all12 m (by omega) (by omega)
    · exact allR_at _ 12 _ nn_all13 m (by omega) (by omega)
    · exact allR_at _ 12 _ nn_all14 m (by omega) (by omega)
    · exact allR_at _ 12 _ nn_all15 m (by omega) (by omega)
  exact Nat.eq_of_beq_eq_true hk
theorem nn_pcd : ∀ n m, m < 2 ^ n → n ≤ 16 → nn m = pcd n m ∧ nn m ≤ n
  | 0, m, h, _ => by
    obtain rfl : m = 0 := by simp at h; omega
    exact ⟨rfl, Nat.le_refl _⟩
  | n + 1, m, h, hn => by
    rw [Nat.pow_succ] at h
    have hp : 2 ^ n ≤ 2 ^ 15 := Nat.pow_le_pow_right (by decide) (by omega)
    obtain ⟨h1, h2⟩ := nn_pcd n (m / 2) (by omega) (by omega)
    rw [nn_step m (by omega), pcd, h1]
    rw [h1] at h2
    omega
theorem nn_eq (m : Nat) (h : m < 65536) : nn m = pc m ∧ nn m ≤ 16 := by
  have this := nn_pcd 16 m h (Nat.le_refl _)
  refine ⟨?_, this.2⟩
  rw [this.1]
  have h2 := pcd_eq m 16 0
  rw [Nat.pow_zero, Nat.div_one] at h2
  exact h2
theorem ones_eq (m : Nat) (h : m < 65536) : bits_OnesCount64.f (m : Int) = some ((pc m : Nat) : Int) := by
  have e1 : n1 m < 2 ^ 64 := Nat.mod_lt _ (by decide)
  rw [ones_steps, o1_n _ (by omega), o2_n _ e1, o3_n, show (256 : Int) = ((256 : Nat) : Int) from rfl, o4_n, show (65536 : Int) = ((65536 : Nat) : Int) from rfl, o4_n, show (4294967296 : Int) = ((4294967296 : Nat) : Int) from rfl, o4_n]
  obtain ⟨h1, h2⟩ := nn_eq m h
  change some (bits .and .i64 (wrap64 ((nn0 m : Nat) : Int)) 127) = _
  rw [← h1]
  unfold nn
  generalize nn0 m = q
  have e2 : wrap64 (q : Int) % 128 = ((q % 128 : Nat) : Int) := by unfold wrap64; omega
  rw [i64_and127, e2]
theorem count_eq (m : Nat) (h : m < 65536) : rights_Count.f (m : Int) = some ((pc m : Nat) : Int) := by
  unfold rights_Count.f bits_OnesCount.f
  rw [right_eq, Option.bind_some, if_pos (by simp; omega), u64_wrap_n, Nat.mod_eq_of_lt (by omega), ones_eq m h]
  rfl
theorem count_none (a : Int) (h : ¬ (0 ≤ a ∧ a < 65536)) : rights_Count.f a = some 0 := by
  unfold rights_Count.f
  rw [right_eq, Option.bind_some, if_neg (by simp; omega)]
theorem filter_both (p q : Nat → Bool) : ∀ l : List Nat, (l.filter (fun j => p j || q j)).length + (l.filter (fun j => p j && q j)).length = (l.filter p).length + (l.filter q).length
  | [] => rfl
  | j :: l => by
    have := filter_both p q l
    simp only [List.filter_cons]
    cases p j <;> cases q j <;> simp <;> omega
theorem pc_both (a b : Nat) : pc (a ||| b) + pc (a &&& b) = pc a + pc b := by
  unfold pc bitsOf
  simp only [Nat.testBit_or, Nat.testBit_and]
  exact filter_both _ _ _
theorem pc_mono (a b : Nat) (h : a &&& b = a) : pc a ≤ pc b := by
  have h1 := pc_both a b
  have h2 : a ||| b = b := by
    refine Nat.eq_of_testBit_eq fun i => ?_
    have h3 := congrArg (fun x => Nat.testBit x i) h
    simp only [Nat.testBit_and] at h3
    rw [Nat.testBit_or]
    revert h3
    cases a.testBit i <;> cases b.testBit i <;> simp
  have h3 := pc_both b a
  rw [h2, h] at h1
  have h4 : pc (a &&& b) ≤ pc b := by
    unfold pc bitsOf
    simp only [Nat.testBit_and]
    rw [← List.filter_filter]
    exact List.length_filter_le _ _
  rw [h] at h4
  exact h4
theorem lets_length (m : Nat) : (lets m).length = pc m := by simp [lets, pc]

/-! ### parts -/
theorem i64_andNot_zero (a b : Nat) (ha : a < 65536) (hb : b < 65536) : (bits .andNot .i64 (a : Int) (b : Int) == 0) = decide (a &&& b = a) := by
  have hz : bits .andNot .i64 (a : Int) (b : Int) = 0 ↔ (BitVec.ofNat 64 a &&& ~~~ BitVec.ofNat 64 b) = 0#64 := by
    show IntKind.i64.wrap ((BitVec.ofInt 64 (a : Int) &&& ~~~ BitVec.ofInt 64 (b : Int)).toNat : Int) = 0 ↔ _
    rw [BitVec.ofInt_natCast, BitVec.ofInt_natCast, IntKind.wrap_i64]
    have hl := (BitVec.ofNat 64 a &&& ~~~ BitVec.ofNat 64 b).isLt
    constructor
    · intro h
      apply BitVec.eq_of_toNat_eq
      simp only [BitVec.toNat_ofNat]
      omega
    · intro h
      rw [h]
      simp
  rw [Bool.eq_iff_iff, beq_iff_eq, hz, decide_eq_true_eq]
  constructor
  · intro h
    refine Nat.eq_of_testBit_eq fun i => ?_
    by_cases hi : i < 64
    · have h1 := congrArg (fun x : BitVec 64 => x.getLsbD i) h
      simp only [BitVec.getLsbD_and, BitVec.getLsbD_not, BitVec.getLsbD_ofNat, hi, decide_true, Bool.true_and] at h1
      rw [Nat.testBit_and]
      revert h1
      cases a.testBit i <;> cases b.testBit i <;> simp
    · have : a.testBit i = false := Nat.testBit_lt_two_pow (Nat.lt_of_lt_of_le ha (Nat.le_trans (show 65536 ≤ 2 ^ 64 by decide) (Nat.pow_le_pow_right (by decide) (by omega))))
      rw [Nat.testBit_and, this]
      rfl
  · intro h
    refine BitVec.eq_of_getLsbD_eq fun i hi => ?_
    have h1 : (a.testBit i && b.testBit i) = a.testBit i := by rw [← Nat.testBit_and, h]
    simp only [BitVec.getLsbD_and, BitVec.getLsbD_not, BitVec.getLsbD_ofNat, hi, decide_true, Bool.true_and]
    revert h1
    cases a.testBit i <;> cases b.testBit i <;> simp
theorem sub_eq (a b : Nat) (ha : a < 65536) (hb : b < 65536) : rights_Sub.f (a : Int) (b : Int) = some (decide (a &&& b = a)) := by
  unfold rights_Sub.f
  rw [right_eq, Option.bind_some, if_pos (by simp; omega), right_eq, Option.bind_some, if_pos (by simp; omega), i64_andNot_zero a b ha hb]
theorem sub_none (a b : Int) (h : ¬ (0 ≤ a ∧ a < 65536) ∨ ¬ (0 ≤ b ∧ b < 65536)) : rights_Sub.f a b = some false := by
  unfold rights_Sub.f
  rw [right_eq, Option.bind_some, right_eq]
  by_cases h1 : 0 ≤ a ∧ a < 65536
  · rw [if_pos (by simpa using h1), Option.bind_some, if_neg (by simp; omega)]
  · rw [if_neg (by simp; omega)]
theorem rsub_eq (a b : Nat) (ha : a < 65536) (hb : b < 65536) : bailiwickref05_Sub.f (a : Int) (b : Int) = some (decide (a &&& b = a)) := by
  unfold bailiwickref05_Sub.f
  rw [mask_eq, Option.bind_some, if_pos (by simp; omega), mask_eq, Option.bind_some, if_pos (by simp; omega), i64_and _ _ (by omega) (by omega)]
  congr 1
  rw [Bool.eq_iff_iff]
  simp
  omega
theorem rsub_none (a b : Int) (h : ¬ (0 ≤ a ∧ a < 65536) ∨ ¬ (0 ≤ b ∧ b < 65536)) : bailiwickref05_Sub.f a b = some false := by
  unfold bailiwickref05_Sub.f
  rw [mask_eq, Option.bind_some, mask_eq]
  by_cases h1 : 0 ≤ a ∧ a < 65536
  · rw [if_pos (by simpa using h1), Option.bind_some, if_neg (by simp; omega)]
  · rw [if_neg (by simp; omega)]
theorem cut_eq (a b : Nat) (ha : a < 65536) (hb : b < 65536) : rights_Cut.f (a : Int) (b : Int) = some ((a &&& b : Nat) : Int) := by
  unfold rights_Cut.f
  rw [right_eq, Option.bind_some, if_pos (by simp; omega), right_eq, Option.bind_some, if_pos (by simp; omega), i64_and _ _ (by omega) (by omega)]
theorem cut_none (a b : Int) (h : ¬ (0 ≤ a ∧ a < 65536) ∨ ¬ (0 ≤ b ∧ b < 65536)) : rights_Cut.f a b = some 0 := by
  unfold rights_Cut.f
  rw [right_eq, Option.bind_some, right_eq]
  by_cases h1 : 0 ≤ a ∧ a < 65536
  · rw [if_pos (by simpa using h1), Option.bind_some, if_neg (by simp; omega)]
  · rw [if_neg (by simp; omega)]
theorem rcut_eq (a b : Int) : bailiwickref05_Cut.f a b = rights_Cut.f a b := rfl

/-! ### reading -/
theorem bt_nat (s : ByteArray) (i : Nat) (h : i < s.size) : bt s (i : Int) = ((s[i].toNat : Nat) : Int) := by
  unfold bt
  rw [dif_pos (by simpa using h)]
  rfl
theorem rparse_l0 (s : ByteArray) (hs : s.size ≤ 140737488351232) : ∀ (d pos : Nat), pos + d = s.size → ∀ k, d < k → ∀ m : Nat, m < 65536 →
    bailiwickref05_Parse.l0 k s (m : Int) (pos : Int) = some (match pz (s.data.toList.drop pos) m with | some m => ((m : Int), true) | none => (0, false))
  | 0, pos, hp, k, hk, m, hm => by
    obtain ⟨k, rfl⟩ : ∃ q, k = q + 1 := ⟨k - 1, by omega⟩
    simp only [bailiwickref05_Parse.l0]
    rw [if_neg (by omega), List.drop_eq_nil_of_le (by simp; omega)]
    rfl
  | d + 1, pos, hp, k, hk, m, hm => by
    obtain ⟨k, rfl⟩ : ∃ q, k = q + 1 := ⟨k - 1, by omega⟩
    simp only [bailiwickref05_Parse.l0]
    have h : pos < s.size := by omega
    rw [if_pos (by omega), if_pos (by omega), bt_nat s pos h, drop_cons s pos h]
    unfold pz
    generalize hc : s[pos].toNat = c
    by_cases h1 : 97 ≤ c
    · rw [if_neg (by omega)]
      by_cases h2 : c < 113
      · rw [if_neg (by omega)]
        have e1 : ((c : Int) - 97) % 256 = ((c - 97 : Nat) : Int) := by omega
        obtain ⟨j, hj⟩ : ∃ j, c - 97 = j := ⟨_, rfl⟩
        have hj16 : j < 16 := by omega
        have hp2 := two_pow_k j hj16
        have e2 : shr .i64 (m : Int) (j : Int) = ((m / 2 ^ j : Nat) : Int) := by
          unfold shr
          simp [IntKind.bits, show min j 64 = j by omega]
        have e3 : shl .i64 1 (j : Int) = ((2 ^ j : Nat) : Int) := by
          unfold shl
          rw [← hp2.1]
          simp [IntKind.bits, show min j 64 = j by omega, wrap64, IntKind.wrap_i64]
        have e4 : wrap64 ((pos : Int) + 1) = ((pos + 1 : Nat) : Int) := by unfold wrap64; omega
        have hd := div_lt m j hm
        rw [e1, hj, e2, e3, and_one _ (by omega), mod_two_bit, e4]
        by_cases h3 : m.testBit j = true
        · rw [if_pos (by simp [h3]), if_neg (by simp [h3])]
        · rw [if_neg (by simp [h3]), if_pos ⟨h1, h2, by simpa using h3⟩, i64_or _ _ (by omega) (by omega), rparse_l0 s hs d (pos + 1) (by omega) k (by omega) _ (Nat.or_lt_two_pow (n := 16) (by omega) (by omega))]
      · rw [if_pos (by omega), if_neg (by omega)]
    · rw [if_pos (by omega), if_neg (by omega)]
theorem rparse_eq (s : ByteArray) (hs : s.size ≤ 140737488351232) (k : Nat) (hk : s.size < k) : bailiwickref05_Parse.f k s = rights_Parse.f s := by
  unfold bailiwickref05_Parse.f rights_Parse.f
  exact rparse_l0 s hs s.size 0 (by omega) k hk 0 (by decide)

/-! ### how many, as the reference says -/
theorem rcount_l0 (m : Nat) (hm : m < 65536) : ∀ (d i : Nat), i + d = 16 → ∀ k, d < k → ∀ q : Nat, q ≤ i → bailiwickref05_Count.l0 k (m : Int) (q : Int) (i : Int) = some ((q + (bitsOf m i d).length : Nat) : Int)
  | 0, i, hi, k, hk, q, hq => by
    obtain ⟨k, rfl⟩ : ∃ q, k = q + 1 := ⟨k - 1, by omega⟩
    simp only [bailiwickref05_Count.l0]
    rw [if_neg (by omega), bitsOf_zero]
    rfl
  | d + 1, i, hi, k, hk, q, hq => by
    obtain ⟨k, rfl⟩ : ∃ q, k = q + 1 := ⟨k - 1, by omega⟩
    simp only [bailiwickref05_Count.l0]
    have hd := div_lt m i hm
    have e1 : shr .i64 (m : Int) (i : Int) = ((m / 2 ^ i : Nat) : Int) := by
      unfold shr
      simp [IntKind.bits, show min i 64 = i by omega]
    have e2 : wrap64 ((i : Int) + 1) = ((i + 1 : Nat) : Int) := by unfold wrap64; omega
    rw [if_pos (by omega), if_pos (by omega), e1, and_one _ (by omega), mod_two_bit, e2, bitsOf_succ]
    by_cases hb : m.testBit i = true
    · rw [if_pos hb, show wrap64 ((q : Int) + ((1 : Nat) : Int)) = ((q + 1 : Nat) : Int) by unfold wrap64; omega, rcount_l0 m hm d (i + 1) (by omega) k (by omega) (q + 1) (by omega)]
      simp [hb]
      omega
    · rw [if_neg hb, show wrap64 ((q : Int) + ((0 : Nat) : Int)) = (q : Int) by unfold wrap64; omega, rcount_l0 m hm d (i + 1) (by omega) k (by omega) q (by omega)]
      simp [hb]
theorem rcount_eq (m : Nat) (hm : m < 65536) (k : Nat) (hk : 17 ≤ k) : bailiwickref05_Count.f k (m : Int) = some ((pc m : Nat) : Int) := by
  unfold bailiwickref05_Count.f
  have := rcount_l0 m hm 16 0 rfl k (by omega) 0 (by omega)
  rw [mask_eq, Option.bind_some, if_pos (by simp; omega), show (0 : Int) = ((0 : Nat) : Int) from rfl, this]
  simp [pc]
theorem rcount_none (a : Int) (h : ¬ (0 ≤ a ∧ a < 65536)) (k : Nat) : bailiwickref05_Count.f k a = some 0 := by
  unfold bailiwickref05_Count.f
  rw [mask_eq, Option.bind_some, if_neg (by simp; omega)]

theorem ex_eq (k : Nat) (hk : 17 ≤ k) : bailiwicklaw05_examples.f k = some true := by
  have h1 := text_eq 5 (by decide) k hk
  have h2 := count_eq 65535 (by decide)
  have h3 : pc 65535 = 16 := by decide +kernel
  have h4 : lets 5 = [97, 99] := by decide +kernel
  rw [h3] at h2
  rw [h4] at h1
  unfold bailiwicklaw05_examples.f
  rw [show (5 : Int) = ((5 : Nat) : Int) from rfl, h1, show (65535 : Int) = ((65535 : Nat) : Int) from rfl, h2]
  clear h1 h2 h3 h4 hk
  decide +kernel
end Go.Proofs.Ytjoogkpakelcaaa.Pure
