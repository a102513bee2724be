/-
  What this session proved by hand beside the print, for the seat of the chapters on disks and pages: the contracts of page.Sum and page.Seal.
-/
import Derived.Test.YtnffhdlkkfphbaaProg
import Derived.Test.YtnffhdlkkfphbaaWWords
import Derived.Lib.OthersKept
import Derived.Lib.Hide
import Derived.Lib.LazyBuf
import Derived.Lib.BufferWrite
import Derived.WalkKit
import Derived.WalkSpells
import Derived.WalkLawsBesides
import Derived.Laws.CopyOwn
namespace Go.Proofs.Ytnffhdlkkfphbaa.G
set_option linter.unusedVariables false
set_option linter.unusedSimpArgs false
open Go.RowKit Go.Proofs.YtnffhdlkkfphbaaW.PrintWords
open Go.Lib (hid)

theorem emod_u8 (n : Int) : 0 ≤ n % 256 := by omega
theorem emod_u16 (n : Int) : 0 ≤ n % 65536 := by omega
theorem emod_u32 (n : Int) : 0 ≤ n % 4294967296 := by omega

/-! ### the sum -/
/-- One byte more: the two halves. -/
def adStep (p : Nat × Nat) (c : UInt8) : Nat × Nat := ((p.1 + c.toNat) % 65521, (p.2 + (p.1 + c.toNat) % 65521) % 65521)
def adPair (l : List UInt8) : Nat × Nat := l.foldl adStep (1, 0)
def adl (l : List UInt8) : Nat := (adPair l).2 * 65536 + (adPair l).1
theorem adStep_lt (p : Nat × Nat) (c : UInt8) : (adStep p c).1 < 65521 ∧ (adStep p c).2 < 65521 := ⟨Nat.mod_lt _ (by decide), Nat.mod_lt _ (by decide)⟩
theorem adFold_lt : ∀ (l : List UInt8) (p : Nat × Nat), p.1 < 65521 → p.2 < 65521 → (l.foldl adStep p).1 < 65521 ∧ (l.foldl adStep p).2 < 65521
  | [], p, h1, h2 => ⟨h1, h2⟩
  | c :: l, p, _, _ => adFold_lt l _ (adStep_lt p c).1 (adStep_lt p c).2
theorem adPair_lt (l : List UInt8) : (adPair l).1 < 65521 ∧ (adPair l).2 < 65521 := adFold_lt l (1, 0) (by decide) (by decide)
theorem adPair_snoc (l : List UInt8) (c : UInt8) : adPair (l ++ [c]) = adStep (adPair l) c := by simp [adPair, List.foldl_append]
theorem take_snoc (s : ByteArray) (k : Nat) (h : k < s.size) : s.data.toList.take (k + 1) = s.data.toList.take k ++ [s[k]] := by
  rw [List.take_succ_eq_append_getElem (by simpa using h)]; rfl
def page_Sum.f (a0 : ByteArray) : Option Int := if a0.size ≤ 9223372036854775807 then some ((adl a0.data.toList : Nat) : Int) else none

set_option maxHeartbeats 1000000 in
theorem page_Sum.same (a0 : ByteArray) (w : World) (hsz : a0.size ≤ 9223372036854775807) :
    Calls Try.prog 18 #[.string a0] w fun e w' => e = .returned (.int .u32 ((adl a0.data.toList : Nat) : Int)) ∧ w = w' := by
  have HS := hid (show ((adl a0.data.toList : Nat) : Int) = ((adPair a0.data.toList).2 * 65536 + (adPair a0.data.toList).1 : Nat) from rfl)
  generalize ((adl a0.data.toList : Nat) : Int) = r at HS
  go_enter Try.func18, Try.ntmps18
  go_wp2
  go_loop [3, 4, 8] (fun a b i => ∃ k : Nat, k ≤ a0.size ∧ i = .int .i64 k ∧ a = .int .u32 ((adPair (a0.data.toList.take k)).1 : Nat) ∧ b = .int .u32 ((adPair (a0.data.toList.take k)).2 : Nat)) (fun _ _ i => a0.size - (intOf i).toNat)
  case atStart => exact ⟨0, Nat.zero_le _, rfl, rfl, rfl⟩
  case round =>
    obtain ⟨k, hk, rfl, rfl, rfl⟩ := hrel
    have hl := adPair_lt (a0.data.toList.take k)
    by_cases hlt : k < a0.size
    · have hb : a0[k].toNat < 256 := a0[k].toNat_lt
      have HT := hid ((congrArg adPair (take_snoc a0 k hlt)).trans (adPair_snoc _ _))
      generalize adPair (a0.data.toList.take k) = p at *
      go_wp2
      go_round
      case rel => exact ⟨k + 1, by omega, by go_num, by rw [HT]; unfold adStep; go_num, by rw [HT]; unfold adStep; go_num⟩
      case measure => simp [intOf]; omega
    · obtain rfl : k = a0.size := by omega
      have e : a0.data.toList.take a0.size = a0.data.toList := List.take_of_length_le (by simp)
      rw [e] at hl ⊢
      have HR := HS
      clear HS
      generalize adPair a0.data.toList = p at *
      go_wp2
      go_ret
      exact ⟨by rw [show r = _ from HR]; go_num, rfl⟩
theorem page_Sum.calls (a0 : ByteArray) (r : Int) (w : World) (h : page_Sum.f a0 = some r) :
    Calls Try.prog 18 #[.string a0] w fun e w' => e = .returned (.int .u32 r) ∧ Drawn0 w w' := by
  unfold page_Sum.f at h
  split at h
  case isFalse => cases h
  rename_i hsz
  obtain rfl := Option.some.inj h
  exact (page_Sum.same a0 w hsz).mono fun e w' ⟨he, hw⟩ => ⟨he, hw ▸ Drawn0.refl _⟩

/-! ### a page -/
/-- The first 252 bytes. -/
def bodyL (kind : Nat) (text : List UInt8) : List UInt8 := UInt8.ofNat kind :: UInt8.ofNat text.length :: (text ++ List.replicate (250 - text.length) 0)
def be4 (n : Nat) : List UInt8 := [UInt8.ofNat (n / 16777216), UInt8.ofNat (n / 65536), UInt8.ofNat (n / 256), UInt8.ofNat n]
def sealL (kind : Nat) (text : List UInt8) : List UInt8 := bodyL kind text ++ be4 (adl (bodyL kind text))
def page_Seal.f (a0 : Int) (a1 : ByteArray) : Option (ByteArray × Int) :=
  if 1 ≤ a0 ∧ a0 ≤ 15 ∧ a1.size ≤ 240 then some (⟨(sealL a0.toNat a1.data.toList).toArray⟩, 0) else some (⟨#[]⟩, 1)

def byteCells (l : List UInt8) : List Value := l.map fun b => .int .u8 (b.toNat : Int)
/-- 'string(b[:n])', b the block that was made last. -/
theorem conv_block {P : Program} (src e dst : TypeId) (hs : P.underlying src = some (.slice e)) (he : P.underlying e = some (.int .u8)) (hd : P.underlying dst = some .string) (w : World) (l r : List UInt8) (cap : Nat) :
    (convert src dst (.slice (some ⟨w.heap.size, 0, none⟩) l.length cap)).run P (w.alloc (.cells (byteCells (l ++ r)).toArray e)) = .ok (.string ⟨l.toArray⟩) (w.alloc (.cells (byteCells (l ++ r)).toArray e)) := by
  have h := run_convert_bytes_arg (P := P) (w.alloc (.cells (byteCells (l ++ r)).toArray e)) src e hs he w.heap.size 0 l.length cap (l.map fun b => (b.toNat : Int)) (by simp) (fun i hi => by
    rw [Nat.zero_add, cell_of_row _ _ i _ e (0, 0) (heap_alloc_new w _)]
    simp [byteCells, hi, List.getElem?_append_left]) dst hd
  rw [h]
  congr 2
  unfold strOfNums
  simp [List.map_map, Function.comp_def]
def zz256 : Array Value := madeCells #[.int .u8 0] 256
theorem zz_get (i : Nat) (h : i < 256) : zz256[i]? = some (.int .u8 0) := by
  unfold zz256 madeCells
  simp [h, Nat.mod_one]
theorem zz_size : zz256.size = 256 := by simp [zz256, madeCells]
theorem make256 : ∀ W, (Instr.makeSlice 35 (.int .i64 256) (.int .i64 256)).run Try.prog W = .ok (.slice (some ⟨W.heap.size, 0, none⟩) 256 256) (W.alloc (.cells zz256 5)) :=
  fun W => print_make 35 5 .u8 1 Try.underlying35 (by kernel_rfl) (by decide) 256 (by decide) W
/-- The block behind the text. -/
def x2 (kind : Nat) (text : List UInt8) : Array Value := (byteCells (bodyL kind text ++ List.replicate 4 0)).toArray
/-- .. and with the first k of the sum's bytes, from the last one on. -/
def x3 (kind : Nat) (text : List UInt8) (n : Nat) : Nat → Array Value
  | 0 => x2 kind text
  | k + 1 => (x3 kind text n k).setIfInBounds (255 - k) (.int .u8 ((n / 2 ^ (8 * k) % 256 : Nat) : Int))
theorem bodyL_length (kind : Nat) (text : List UInt8) (h : text.length ≤ 240) : (bodyL kind text).length = 252 := by
  simp [bodyL]; omega
theorem x3_size (kind : Nat) (text : List UInt8) (n : Nat) (h : text.length ≤ 240) : ∀ k, (x3 kind text n k).size = 256
  | 0 => by
    have hb := bodyL_length kind text h
    simp [x3, x2, byteCells, hb]
  | k + 1 => by
    rw [x3, Array.size_setIfInBounds, x3_size kind text n h k]
theorem x3_eq (kind : Nat) (text : List UInt8) (n : Nat) (h : text.length ≤ 240) : x3 kind text n 4 = (byteCells (bodyL kind text ++ be4 n)).toArray := by
  have hb := bodyL_length kind text h
  simp only [x3, x2]
  apply Array.ext'
  simp only [byteCells, List.map_append, Array.toList_setIfInBounds, List.setIfInBounds_toArray]
  have hm : ((bodyL kind text).map (fun b => Value.int .u8 (b.toNat : Int))).length = 252 := by simpa using hb
  generalize (bodyL kind text).map (fun b => Value.int .u8 (b.toNat : Int)) = B at hm
  simp [be4, List.set_append, hm, List.replicate]
theorem x2_eq (kind : Nat) (text : ByteArray) (hk : kind < 256) (h3 : text.size ≤ 240) :
    (((zz256.setIfInBounds 0 (.int .u8 (kind : Int))).setIfInBounds 1 (.int .u8 (text.size : Int))).toList.take 2 ++ Lib.byteCells text.data.toList ++ ((zz256.setIfInBounds 0 (.int .u8 (kind : Int))).setIfInBounds 1 (.int .u8 (text.size : Int))).toList.drop (2 + text.size)).toArray = x2 kind text.data.toList := by
  have hz : zz256.toList = List.replicate 256 (.int .u8 0) := by
    apply List.ext_getElem
    · rw [Array.length_toList, zz_size, List.length_replicate]
    · intro i h1 h2
      have := zz_get i (by rw [List.length_replicate] at h2; exact h2)
      rw [List.getElem_replicate]
      rw [Array.getElem?_eq_getElem (by rw [Array.length_toList] at h1; exact h1)] at this
      exact Option.some.inj this
  have hs : text.data.toList.length = text.size := rfl
  unfold x2
  congr 1
  have hz2 : (List.replicate 256 (Value.int .u8 0)) = .int .u8 0 :: .int .u8 0 :: List.replicate 254 (.int .u8 0) := rfl
  have e1 : (UInt8.ofNat kind).toNat = kind := by rw [UInt8.toNat_ofNat']; omega
  have e2 : (UInt8.ofNat text.size).toNat = text.size := by rw [UInt8.toNat_ofNat']; omega
  have e3 : List.replicate (254 - text.size) (Value.int .u8 0) = List.replicate (250 - text.size) (.int .u8 0) ++ List.replicate 4 (.int .u8 0) := by
    rw [List.replicate_append_replicate]
    congr 1
    omega
  rw [Array.toList_setIfInBounds, Array.toList_setIfInBounds, hz, hz2]
  rw [List.set_cons_zero, List.set_cons_succ, List.set_cons_zero, Nat.add_comm 2 text.size]
  rw [List.take_succ_cons, List.take_succ_cons, List.take_zero, List.drop_succ_cons, List.drop_succ_cons, List.drop_replicate, e3]
  unfold byteCells bodyL Lib.byteCells
  rw [hs]
  simp only [List.map_cons, List.map_append, List.cons_append, List.nil_append, List.append_assoc, List.map_replicate, e1, e2]
  rfl
theorem setRow_alloc (w : World) (cur cs : Array Value) (t : TypeId) : (w.alloc (.cells cur t)).setRow w.heap.size cs = w.alloc (.cells cs t) := by
  simp only [World.alloc, World.setRow]
  congr 1
  apply Array.ext
  · simp
  · intro i h1 h2
    rw [Array.getElem_modify, Array.getElem_push, Array.getElem_push]
    split
    · rename_i e
      subst e
      simp
    · rename_i e
      have : i < w.heap.size := by simp at h2; omega
      simp [this]
theorem copied (kind : Nat) (text : ByteArray) (w : World) (hk : kind < 256) (h3 : text.size ≤ 240) :
    (Builtin.copy_ #[35, 9] 3 #[.slice (some ⟨w.heap.size, 2, none⟩) 254 254, .string text]).run Try.prog (w.alloc (.cells ((zz256.setIfInBounds 0 (.int .u8 (kind : Int))).setIfInBounds 1 (.int .u8 (text.size : Int))) 5)) =
      .ok (goInt text.size) (w.alloc (.cells (x2 kind text.data.toList) 5)) := by
  have h := Lib.run_copy_row_string (P := Try.prog) (w.alloc (.cells ((zz256.setIfInBounds 0 (.int .u8 (kind : Int))).setIfInBounds 1 (.int .u8 (text.size : Int))) 5)) 35 9 3 5 w.heap.size 2 254 254 text _ 5 Try.underlying35 (by kernel_rfl) (heap_alloc_new w _) (by omega) (by simp [zz_size]; omega)
  rw [h, setRow_alloc, x2_eq kind text hk h3]
set_option maxRecDepth 100000 in
set_option maxHeartbeats 1000000 in
theorem page_Seal.yes (kind : Nat) (text : ByteArray) (w : World) (h1 : 1 ≤ kind) (h2 : kind ≤ 15) (h3 : text.size ≤ 240) :
    Calls Try.prog 14 #[.int .i64 kind, .string text] w fun e w' => e = .returned (.tuple #[.string ⟨(sealL kind text.data.toList).toArray⟩, .int .i64 0]) ∧ Below w.heap.size w w' := by
  have hmk := make256
  have hz0 := zz_get 0 (by decide)
  have hz1 := zz_get 1 (by decide)
  have hcp := copied kind text w (by omega) h3
  have hcv : (convert 35 9 (.slice (some ⟨w.heap.size, 0, none⟩) 252 256)).run Try.prog (w.alloc (.cells (x2 kind text.data.toList) 5)) = .ok (.string ⟨(bodyL kind text.data.toList).toArray⟩) (w.alloc (.cells (x2 kind text.data.toList) 5)) := by
    have h := conv_block 35 5 9 Try.underlying35 (by kernel_rfl) (by kernel_rfl) w (bodyL kind text.data.toList) (List.replicate 4 0) 256
    rw [bodyL_length kind text.data.toList h3] at h
    exact h
  have hcf : (convert 35 9 (.slice (some ⟨w.heap.size, 0, none⟩) 256 256)).run Try.prog (w.alloc (.cells (x3 kind text.data.toList (adl (bodyL kind text.data.toList)) 4) 5)) = .ok (.string ⟨(sealL kind text.data.toList).toArray⟩) (w.alloc (.cells (x3 kind text.data.toList (adl (bodyL kind text.data.toList)) 4) 5)) := by
    have h := conv_block 35 5 9 Try.underlying35 (by kernel_rfl) (by kernel_rfl) w (sealL kind text.data.toList) [] 256
    have hl : (sealL kind text.data.toList).length = 256 := by
      unfold sealL
      rw [List.length_append, bodyL_length kind text.data.toList h3]
      rfl
    rw [hl, List.append_nil] at h
    rw [x3_eq kind _ _ h3]
    exact h
  have hlen : text.data.toList.length ≤ 240 := h3
  have hxs := x3_size kind text.data.toList (adl (bodyL kind text.data.toList)) hlen
  have hx0 : x2 kind text.data.toList = x3 kind text.data.toList (adl (bodyL kind text.data.toList)) 0 := rfl
  have HX0 := hid hx0
  clear hx0
  have hsb := bodyL_length kind text.data.toList hlen
  have hsb' : (ByteArray.mk (bodyL kind text.data.toList).toArray).size ≤ 9223372036854775807 := by simp [ByteArray.size, hsb]
  have hsum := fun W => page_Sum.same ⟨(bodyL kind text.data.toList).toArray⟩ W hsb'
  have HSUM := hid hsum
  clear hsum hsb hsb'
  have hn : adl (bodyL kind text.data.toList) < 4294967296 := by
    have := adPair_lt (bodyL kind text.data.toList)
    unfold adl
    omega
  generalize hN : adl (bodyL kind text.data.toList) = N at *
  have HN := hid hN
  clear hN
  go_enter Try.func14, Try.ntmps14
  go_wp2_with fail
  refine (HSUM _).mono ?_
  rintro e w' ⟨rfl, rfl⟩
  go_wp2_with fail
  go_loopw [38] (fun i wr => ∃ k : Nat, k ≤ 4 ∧ i = .int .i64 k ∧ wr = w.alloc (.cells (x3 kind text.data.toList N k) 5)) (fun i _ => 4 - (intOf i).toNat)
  case atStart => exact ⟨0, by omega, rfl, by rw [HX0]⟩
  case round =>
    obtain ⟨k, hk, rfl, rfl⟩ := hrel
    by_cases hlt : k < 4
    · have hsz := hxs k
      have hc : ∃ v, (x3 kind text.data.toList N k)[255 - k]? = some v := ⟨_, Array.getElem?_eq_getElem (by omega)⟩
      obtain ⟨v, hv⟩ := hc
      have HE := hid (show x3 kind text.data.toList N (k + 1) = (x3 kind text.data.toList N k).setIfInBounds (255 - k) (.int .u8 ((N / 2 ^ (8 * k) % 256 : Nat) : Int)) from rfl)
      generalize x3 kind text.data.toList N k = X at *
      go_wp2
      go_roundw
      case rel =>
        refine ⟨k + 1, by omega, by go_num, ?_⟩
        have e : ((N / 2 ^ (8 * k) % 256 : Nat) : Int) = (N : Int) / 2 ^ (8 * k) % 256 := by simp
        rw [show x3 kind text.data.toList N (k + 1) = _ from HE, e]
      case measure => simp [intOf]; omega
    · obtain rfl : k = 4 := by omega
      go_wp2
      go_ret2
      exact ⟨rfl, (Below.refl _ _).alloc (Nat.le_refl _) _⟩
theorem page_Seal.no (kind : Int) (text : ByteArray) (w : World) (h : ¬ (1 ≤ kind ∧ kind ≤ 15 ∧ text.size ≤ 240)) :
    Calls Try.prog 14 #[.int .i64 kind, .string text] w fun e w' => e = .returned (.tuple #[.string ⟨#[]⟩, .int .i64 1]) ∧ Below w.heap.size w w' := by
  by_cases h1 : 1 ≤ kind
  · by_cases h2 : kind ≤ 15
    · have h3 : ¬ text.size ≤ 240 := fun h3 => h ⟨h1, h2, h3⟩
      go_enter Try.func14, Try.ntmps14
      go_wp2
      go_ret2
      exact ⟨rfl, Below.refl _ _⟩
    · go_enter Try.func14, Try.ntmps14
      go_wp2
      go_ret2
      exact ⟨rfl, Below.refl _ _⟩
  · go_enter Try.func14, Try.ntmps14
    go_wp2
    go_ret2
    exact ⟨rfl, Below.refl _ _⟩
theorem page_Seal.calls (a0 : Int) (a1 : ByteArray) (r1 : ByteArray) (r2 : Int) (w : World) (h : page_Seal.f a0 a1 = some (r1, r2)) :
    Calls Try.prog 14 #[.int .i64 a0, .string a1] w fun e w' => e = .returned (.tuple #[.string r1, .int .i64 r2]) ∧ Below w.heap.size w w' := by
  unfold page_Seal.f at h
  split at h
  · rename_i hc
    obtain ⟨rfl, rfl⟩ := Prod.mk.inj (Option.some.inj h)
    obtain ⟨k, rfl⟩ := Int.eq_ofNat_of_zero_le (show 0 ≤ a0 by omega)
    exact page_Seal.yes k a1 w (by omega) (by omega) hc.2.2
  · rename_i hc
    obtain ⟨rfl, rfl⟩ := Prod.mk.inj (Option.some.inj h)
    exact page_Seal.no a0 a1 w hc
end Go.Proofs.Ytnffhdlkkfphbaa.G
