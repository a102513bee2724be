/-
  What this session proved by hand beside the print, for the seat of the chapter on bits: the contracts of bits.New and the reference's New, of bits.Join and bits.Less.
-/
import Derived.Test.YtbneljnmhofjfaaA2
import Derived.Deep.RegionWith
namespace Go.Proofs.Ytbneljnmhofjfaa.G
set_option linter.unusedVariables false
set_option linter.unusedSimpArgs false
open Go.RowKit Go.Proofs.Ytbneljnmhofjfaa.M Go.Proofs.YtbneljnmhofjfaaW.PrintWords
open Go.Lib (hid)

/-! ### New -/
def newLen (n : Int) : Nat := ((min (max n 0) 100000).toNat + 7) / 8
def bits_New.f (n : Int) : Option ByteArray := if -9223372036854775808 ≤ n ∧ n ≤ 9223372036854775807 then some ⟨(List.replicate (newLen n) 0).toArray⟩ else none
theorem repeatL_one (c : UInt8) : ∀ n, Lib.repeatL [c] n = List.replicate n c
  | 0 => rfl
  | n + 1 => by rw [Lib.repeatL, repeatL_one c n]; rfl
theorem le_trans' (c : Nat) (h : c ≤ 20000) : (⟨#[0]⟩ : ByteArray).size * c ≤ 140737488355328 := by
  have : (⟨#[0]⟩ : ByteArray).size = 1 := rfl
  rw [this]; omega
theorem rep_calls (c : Nat) (h : c ≤ 20000) (W : World) : Calls Try.prog 27 #[.string ⟨#[0]⟩, .int .i64 c] W fun e w' => e = .returned (.string ⟨(List.replicate c 0).toArray⟩) ∧ Below W.heap.size W w' := by
  have H := Try.strings_Repeat ⟨#[0]⟩ c W (Nat.le_trans h (by decide)) (le_trans' c h)
  rw [show ((⟨#[0]⟩ : ByteArray).data.toList) = [0] from rfl, repeatL_one] at H
  exact H
theorem bits_New.at (n : Int) (m : Nat) (w : World) (hn : m ≤ 100000) (h1 : min (max n 0) 100000 = (m : Int)) :
    Calls Try.prog 17 #[.int .i64 n] w fun e w' => e = .returned (.string ⟨(List.replicate ((m + 7) / 8) 0).toArray⟩) ∧ Below w.heap.size w w' := by
  obtain ⟨c, hc⟩ : ∃ c : Nat, c = (m + 7) / 8 := ⟨_, rfl⟩
  have hc2 : ((m : Int) + 7) / 8 = (c : Int) := by omega
  have hc3 : c ≤ 20000 := by omega
  have HR := hid (fun W => rep_calls c hc3 W)
  obtain ⟨q, hq⟩ : ∃ q, max n 0 = q := ⟨_, rfl⟩
  rw [hq] at h1
  rw [← hc]
  clear hc
  generalize (⟨(List.replicate c 0).toArray⟩ : ByteArray) = R at *
  go_enter Try.func17, Try.ntmps17
  go_wp2_with fail
  rw [show (m : Int) + 8 - 1 = (m : Int) + 7 by omega, hc2]
  refine (HR _).mono ?_
  rintro e w1 ⟨rfl, hb⟩
  have HB := hid hb
  clear hb
  go_wp2_with fail
  go_ret
  exact ⟨rfl, HB⟩
set_option maxRecDepth 100000 in
theorem ref_New.at (n : Int) (m : Nat) (w : World) (hn : m ≤ 100000) (h1 : min (max n 0) 100000 = (m : Int)) :
    Calls Try.prog 18 #[.int .i64 n] w fun e w' => e = .returned (.string ⟨(List.replicate ((m + 7) / 8) 0).toArray⟩) ∧ Below w.heap.size w w' := by
  obtain ⟨c, hc⟩ : ∃ c : Nat, c = (m + 7) / 8 := ⟨_, rfl⟩
  have hc2 : ((m : Int) + 7) / 8 = (c : Int) := by omega
  have hm := print_make (P := Try.prog) 36 5 .u8 1 Try.underlying36 (by kernel_rfl) (by decide) c (by omega) w
  have hcl : ∀ i, (h : i < c) → (w.alloc (.cells (madeCells #[.int .u8 0] c) 5)).cell? ⟨w.heap.size, i, none⟩ = some (.int .u8 0) := fun i h => by
    rw [cell_of_row _ _ i _ 5 (0, 0) (heap_alloc_new w _)]
    unfold madeCells
    simp [h, Nat.mod_one]
  have hcb := run_convert_bytes_arg (P := Try.prog) (w.alloc (.cells (madeCells #[.int .u8 0] c) 5)) 36 5 Try.underlying36 (by kernel_rfl) w.heap.size 0 c c (List.replicate c 0) (by simp) (fun i hi => by
    rw [Nat.zero_add, hcl i hi]
    simp [hi]) 9 (by kernel_rfl)
  rw [show strOfNums (List.replicate c 0) = (⟨(List.replicate c 0).toArray⟩ : ByteArray) by simp [strOfNums]] at hcb
  obtain ⟨q, hq⟩ : ∃ q, max n 0 = q := ⟨_, rfl⟩
  rw [hq] at h1
  rw [← hc]
  clear hc hcl
  have HB := hid ((Below.refl w.heap.size w).alloc (Nat.le_refl _) (.cells (madeCells #[.int .u8 0] c) 5))
  generalize madeCells #[.int .u8 0] c = X at *
  go_enter Try.func18, Try.ntmps18
  go_wp2_with fail
  go_ret
  exact ⟨rfl, HB⟩
theorem newLen_ex (n : Int) : ∃ m : Nat, m ≤ 100000 ∧ min (max n 0) 100000 = (m : Int) ∧ newLen n = (m + 7) / 8 := ⟨(min (max n 0) 100000).toNat, by omega, by omega, rfl⟩
theorem bits_New.calls (n : Int) (r : ByteArray) (w : World) (h : bits_New.f n = some r) :
    Calls Try.prog 17 #[.int .i64 n] w fun e w' => e = .returned (.string r) ∧ Below w.heap.size w w' := by
  unfold bits_New.f at h
  split at h
  case isFalse => cases h
  obtain rfl := Option.some.inj h
  obtain ⟨m, h1, h2, h3⟩ := newLen_ex n
  rw [h3]
  exact bits_New.at n m w h1 h2
abbrev ref_New.f (n : Int) : Option ByteArray := bits_New.f n
theorem ref_New.calls (n : Int) (r : ByteArray) (w : World) (h : ref_New.f n = some r) :
    Calls Try.prog 18 #[.int .i64 n] w fun e w' => e = .returned (.string r) ∧ Below w.heap.size w w' := by
  unfold ref_New.f bits_New.f at h
  split at h
  case isFalse => cases h
  obtain rfl := Option.some.inj h
  obtain ⟨m, h1, h2, h3⟩ := newLen_ex n
  rw [h3]
  exact ref_New.at n m w h1 h2

/-! ### Join, Less -/
def mixK (g : UInt8 → UInt8 → UInt8) : List UInt8 → List UInt8 → Nat → List UInt8
  | x :: a, y :: b, k + 1 => g x y :: mixK g a b k
  | a, _, _ => a
theorem mixK_zero (g a b) : mixK g a b 0 = a := by cases a <;> cases b <;> rfl
theorem mixK_length (g) : ∀ a b k, (mixK g a b k).length = a.length
  | [], _, _ => by simp [mixK]
  | x :: a, [], _ => by simp [mixK]
  | x :: a, y :: b, 0 => by simp [mixK]
  | x :: a, y :: b, k + 1 => by simp [mixK, mixK_length g a b k]
theorem mixK_succ (g) : ∀ (a b : List UInt8) (k : Nat) (ha : k < a.length) (hb : k < b.length), (mixK g a b k).set k (g a[k] b[k]) = mixK g a b (k + 1)
  | [], _, k, h, _ => by simp at h
  | x :: a, [], k, _, h => by simp at h
  | x :: a, y :: b, 0, _, _ => by simp [mixK, mixK_zero]
  | x :: a, y :: b, k + 1, h1, h2 => by
    simp only [mixK, List.set_cons_succ, List.getElem_cons_succ]
    rw [mixK_succ g a b k (by simpa using h1) (by simpa using h2)]
theorem joinD.calls (x y : Nat) (hx : x < 256) (hy : y < 256) (w : World) :
    Calls Try.prog 30 #[.int .u8 x, .int .u8 y] w fun e w' => e = .returned (.int .u8 ((x ||| y : Nat) : Int)) ∧ w' = w := by
  have h := u8_or_nat x y hx hy
  go_enter Try.func30, Try.ntmps30
  go_wp2_with fail
  go_ret
  exact ⟨rfl, rfl⟩
theorem lessD.calls (x y : Nat) (hx : x < 256) (hy : y < 256) (w : World) :
    Calls Try.prog 31 #[.int .u8 x, .int .u8 y] w fun e w' => e = .returned (.int .u8 ((x &&& (255 - y) : Nat) : Int)) ∧ w' = w := by
  have h := u8_andNot_nat x y hx hy
  go_enter Try.func31, Try.ntmps31
  go_wp2_with fail
  go_ret
  exact ⟨rfl, rfl⟩

def orG (x y : UInt8) : UInt8 := UInt8.ofNat (x.toNat ||| y.toNat)
def lessG (x y : UInt8) : UInt8 := UInt8.ofNat (x.toNat &&& (255 - y.toNat))
theorem orG_nat (x y : UInt8) : (orG x y).toNat = x.toNat ||| y.toNat := by
  have h := Nat.or_lt_two_pow (n := 8) (UInt8.toNat_lt x) (UInt8.toNat_lt y)
  rw [orG, UInt8.toNat_ofNat', Nat.mod_eq_of_lt h]
theorem lessG_nat (x y : UInt8) : (lessG x y).toNat = x.toNat &&& (255 - y.toNat) := by
  have h := Nat.and_lt_two_pow (n := 8) x.toNat (y := 255 - y.toNat) (by have := UInt8.toNat_lt y; omega)
  rw [lessG, UInt8.toNat_ofNat', Nat.mod_eq_of_lt h]
theorem joinG (x y : UInt8) (W : World) : Calls Try.prog 30 #[.int .u8 ((x.toNat : Nat) : Int), .int .u8 ((y.toNat : Nat) : Int)] W fun e W' => e = .returned (.int .u8 (((orG x y).toNat : Nat) : Int)) ∧ W' = W := by
  rw [orG_nat]
  exact joinD.calls x.toNat y.toNat (UInt8.toNat_lt x) (UInt8.toNat_lt y) W
theorem lessG' (x y : UInt8) (W : World) : Calls Try.prog 31 #[.int .u8 ((x.toNat : Nat) : Int), .int .u8 ((y.toNat : Nat) : Int)] W fun e W' => e = .returned (.int .u8 (((lessG x y).toNat : Nat) : Int)) ∧ W' = W := by
  rw [lessG_nat]
  exact lessD.calls x.toNat y.toNat (UInt8.toNat_lt x) (UInt8.toNat_lt y) W
set_option maxRecDepth 100000 in
set_option maxHeartbeats 1000000 in
theorem bothJ.walk (a b : ByteArray) (w : World) (ha : a.size ≤ 140737488355328) (hb : b.size ≤ 140737488355328) :
    Calls Try.prog 29 #[.string a, .string b, .func (.func 30) #[] #[]] w fun e w' => e = .returned (.string ⟨(mixK orG a.data.toList b.data.toList (min a.size b.size)).toArray⟩) ∧ Below w.heap.size w w' := by
  have hcv := Lib.run_convert_string_bytes (P := Try.prog) w 9 36 5 a Try.underlying9 Try.underlying36 (by kernel_rfl)
  obtain ⟨m, hm⟩ : ∃ m, m = min a.size b.size := ⟨_, rfl⟩
  have hmi : min (a.size : Int) (b.size : Int) = (m : Int) := by omega
  have H0 := hid (And.intro (MB.new w 5 a) (below_bytes w 5 a))
  rw [← hm]
  have HM := hid hm
  clear hm
  go_enter Try.func29, Try.ntmps29
  go_wp2_with fail
  go_loopw [8, 16] (fun j i wr => ∃ k : Nat, k ≤ m ∧ i = .int .i64 k ∧ Hid (MB wr w.heap.size 5 (mixK orG a.data.toList b.data.toList k) ∧ Below w.heap.size w wr)) (fun _ i _ => m - (intOf i).toNat)
  case atStart => exact ⟨0, Nat.zero_le _, rfl, by rw [mixK_zero]; exact H0⟩
  case round =>
    obtain ⟨k, hk, rfl, HH⟩ := hrel
    by_cases hlt : k < m
    · obtain ⟨ka, kb⟩ : k < a.size ∧ k < b.size := by
        have h : m = min a.size b.size := HM
        omega
      obtain ⟨hmb, hbl⟩ := HH
      have hl : (mixK orG a.data.toList b.data.toList k).length = a.size := mixK_length _ _ _ _
      have hset := mixK_succ orG a.data.toList b.data.toList k ka kb
      have hfree : wr.drew.frozen? ⟨w.heap.size, k, none⟩ = false := hmb.free k (by omega)
      have hcell : ∃ v, wr.drew.cell? ⟨w.heap.size, k, none⟩ = some v := ⟨_, hmb.cell k (by omega)⟩
      obtain ⟨v, hcell⟩ := hcell
      have HK := hid (fun W => joinG a[k] b[k] W)
      have HN := hid (And.intro ((hmb.drew).set_ k (orG a[k] b[k])) (hbl.drew.setCell (p := ⟨w.heap.size, k, none⟩) (Nat.le_refl _) (.int .u8 (((orG a[k] b[k]).toNat : Nat) : Int))))
      have HS := hid hset
      clear hmb hbl hset hl
      go_wp2_with fail
      go_region_with (refine (HK _).mono ?_; rintro e w1 ⟨rfl, rfl⟩)
      all_goals go_wp2_with fail
      all_goals go_roundw
      all_goals first
        | (case rel => exact ⟨k + 1, by omega, by go_num, by rw [← HS]; exact HN⟩)
        | skip
      all_goals (simp [intOf]; omega)
    · obtain rfl : k = m := by omega
      obtain ⟨hmb, hbl⟩ := HH
      have hcb := hmb.str (P := Try.prog) (src := 36) (dst := 9) Try.underlying36 (by kernel_rfl) (by kernel_rfl) (grownCap w a.size 0 5)
      rw [mixK_length, show a.data.toList.length = a.size from rfl] at hcb
      have HB := hid hbl
      clear hbl hmb
      go_wp2_with fail
      go_ret
      exact ⟨rfl, HB⟩
set_option maxRecDepth 100000 in
set_option maxHeartbeats 1000000 in
theorem bothL.walk (a b : ByteArray) (w : World) (ha : a.size ≤ 140737488355328) (hb : b.size ≤ 140737488355328) :
    Calls Try.prog 29 #[.string a, .string b, .func (.func 31) #[] #[]] w fun e w' => e = .returned (.string ⟨(mixK lessG a.data.toList b.data.toList (min a.size b.size)).toArray⟩) ∧ Below w.heap.size w w' := by
  have hcv := Lib.run_convert_string_bytes (P := Try.prog) w 9 36 5 a Try.underlying9 Try.underlying36 (by kernel_rfl)
  obtain ⟨m, hm⟩ : ∃ m, m = min a.size b.size := ⟨_, rfl⟩
  have hmi : min (a.size : Int) (b.size : Int) = (m : Int) := by omega
  have H0 := hid (And.intro (MB.new w 5 a) (below_bytes w 5 a))
  rw [← hm]
  have HM := hid hm
  clear hm
  go_enter Try.func29, Try.ntmps29
  go_wp2_with fail
  go_loopw [8, 16] (fun j i wr => ∃ k : Nat, k ≤ m ∧ i = .int .i64 k ∧ Hid (MB wr w.heap.size 5 (mixK lessG a.data.toList b.data.toList k) ∧ Below w.heap.size w wr)) (fun _ i _ => m - (intOf i).toNat)
  case atStart => exact ⟨0, Nat.zero_le _, rfl, by rw [mixK_zero]; exact H0⟩
  case round =>
    obtain ⟨k, hk, rfl, HH⟩ := hrel
    by_cases hlt : k < m
    · obtain ⟨ka, kb⟩ : k < a.size ∧ k < b.size := by
        have h : m = min a.size b.size := HM
        omega
      obtain ⟨hmb, hbl⟩ := HH
      have hl : (mixK lessG a.data.toList b.data.toList k).length = a.size := mixK_length _ _ _ _
      have hset := mixK_succ lessG a.data.toList b.data.toList k ka kb
      have hfree : wr.drew.frozen? ⟨w.heap.size, k, none⟩ = false := hmb.free k (by omega)
      have hcell : ∃ v, wr.drew.cell? ⟨w.heap.size, k, none⟩ = some v := ⟨_, hmb.cell k (by omega)⟩
      obtain ⟨v, hcell⟩ := hcell
      have HK := hid (fun W => lessG' a[k] b[k] W)
      have HN := hid (And.intro ((hmb.drew).set_ k (lessG a[k] b[k])) (hbl.drew.setCell (p := ⟨w.heap.size, k, none⟩) (Nat.le_refl _) (.int .u8 (((lessG a[k] b[k]).toNat : Nat) : Int))))
      have HS := hid hset
      clear hmb hbl hset hl
      go_wp2_with fail
      go_region_with (refine (HK _).mono ?_; rintro e w1 ⟨rfl, rfl⟩)
      all_goals go_wp2_with fail
      all_goals go_roundw
      all_goals first
        | (case rel => exact ⟨k + 1, by omega, by go_num, by rw [← HS]; exact HN⟩)
        | skip
      all_goals (simp [intOf]; omega)
    · obtain rfl : k = m := by omega
      obtain ⟨hmb, hbl⟩ := HH
      have hcb := hmb.str (P := Try.prog) (src := 36) (dst := 9) Try.underlying36 (by kernel_rfl) (by kernel_rfl) (grownCap w a.size 0 5)
      rw [mixK_length, show a.data.toList.length = a.size from rfl] at hcb
      have HB := hid hbl
      clear hbl hmb
      go_wp2_with fail
      go_ret
      exact ⟨rfl, HB⟩
def Join.f (a b : ByteArray) : Option ByteArray := if a.size ≤ 140737488355328 ∧ b.size ≤ 140737488355328 then some ⟨(mixK orG a.data.toList b.data.toList (min a.size b.size)).toArray⟩ else none
def Less.f (a b : ByteArray) : Option ByteArray := if a.size ≤ 140737488355328 ∧ b.size ≤ 140737488355328 then some ⟨(mixK lessG a.data.toList b.data.toList (min a.size b.size)).toArray⟩ else none
theorem Join.calls (a b : ByteArray) (r : ByteArray) (w : World) (h : Join.f a b = some r) :
    Calls Try.prog 20 #[.string a, .string b] w fun e w' => e = .returned (.string r) ∧ Below w.heap.size w w' := by
  unfold Join.f at h
  split at h
  case isFalse => cases h
  rename_i hs
  have HJ := hid (fun W => bothJ.walk a b W hs.1 hs.2)
  obtain rfl := Option.some.inj h
  generalize (⟨(mixK orG a.data.toList b.data.toList (min a.size b.size)).toArray⟩ : ByteArray) = R at *
  go_enter Try.func20, Try.ntmps20
  go_wp2_with fail
  refine (HJ _).mono ?_
  rintro e w1 ⟨rfl, hb⟩
  have HB := hid hb
  clear hb
  go_wp2_with fail
  go_ret
  exact ⟨rfl, HB⟩
theorem Less.calls (a b : ByteArray) (r : ByteArray) (w : World) (h : Less.f a b = some r) :
    Calls Try.prog 22 #[.string a, .string b] w fun e w' => e = .returned (.string r) ∧ Below w.heap.size w w' := by
  unfold Less.f at h
  split at h
  case isFalse => cases h
  rename_i hs
  have HJ := hid (fun W => bothL.walk a b W hs.1 hs.2)
  obtain rfl := Option.some.inj h
  generalize (⟨(mixK lessG a.data.toList b.data.toList (min a.size b.size)).toArray⟩ : ByteArray) = R at *
  go_enter Try.func22, Try.ntmps22
  go_wp2_with fail
  refine (HJ _).mono ?_
  rintro e w1 ⟨rfl, hb⟩
  have HB := hid hb
  clear hb
  go_wp2_with fail
  go_ret
  exact ⟨rfl, HB⟩
end Go.Proofs.Ytbneljnmhofjfaa.G
