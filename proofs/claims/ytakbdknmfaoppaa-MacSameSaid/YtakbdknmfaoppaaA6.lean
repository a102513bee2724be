/-
  The walks of mac.Mac's closure and of ref04.turned.
-/
import Derived.Test.YtakbdknmfaoppaaA5
import Derived.Lib.BufferWrite
import Derived.Lib.SlBuf
namespace Go.Proofs.Ytakbdknmfaoppaa.R
set_option linter.unusedVariables false
set_option linter.unusedSimpArgs false
open Go.RowKit Go.Proofs.YtakbdknmfaoppaaW.PrintWords Go.Proofs.YtakbdknmfaoppaaW.PrintLast Go.Proofs.YtakbdknmfaoppaaW.PrintMore
open Go.Lib (hid)
def cells8 (xs : List Int) : Array Value := (xs.map (Value.int .u8)).toArray
theorem cells8_at (xs : List Int) (i : Nat) (h : i < xs.length) : (cells8 xs)[i]? = some (.int .u8 (xs.getD i 0)) := by simp [cells8, h]
theorem cells8_set (xs : List Int) (i : Nat) (v : Int) : (cells8 xs).setIfInBounds i (.int .u8 v) = cells8 (xs.set i v) := by simp [cells8, List.map_set]
def klong (key : ByteArray) : List Int := bytesOf key ++ List.replicate (64 - key.size) 0
def tl (b : Int) : Nat → Nat → List Int → List Int
  | 0, _, xs => xs
  | f + 1, i, xs => tl b f (i + 1) (xs.set i (Go.bits .xor .u8 (xs.getD i 0) b))
def turnF (key : ByteArray) (b : Int) : ByteArray := strOfNums (tl b 64 0 (klong key))
theorem klong_len (key : ByteArray) (h : key.size ≤ 64) : (klong key).length = 64 := by
  rw [klong, List.length_append, bytesOf_length, List.length_replicate]; omega
theorem copied (w : World) (g : Nat) (key : ByteArray) (hk : key.size ≤ 64) (h : w.heap[g]? = some (.cells (cells8 (List.replicate 64 0)) 5 (0, 0))) :
    ∃ w1, (∀ ty, (Builtin.copy_ #[26, 9] ty #[.slice (some ⟨g, 0, none⟩) 64 64, .string key]).run Try.prog w = .ok (goInt key.size) w1) ∧ w1.heap[g]? = some (.cells (cells8 (klong key)) 5 (0, 0)) ∧ (∀ B w0, Below B w0 w → B ≤ g → Below B w0 w1) := by
  refine ⟨_, fun ty => Lib.run_copy_row_string w 26 9 ty 5 g 0 64 64 key _ 5 Try.underlying26 (by kernel_rfl) h hk (by simp [cells8]; omega), ?_, ?_⟩
  · have h2 := setRow_heap w g _ ((cells8 (List.replicate 64 0)).toList.take 0 ++ Lib.byteCells key.data.toList ++ (cells8 (List.replicate 64 0)).toList.drop (0 + key.size)).toArray 5 (0, 0) h
    have e : ((cells8 (List.replicate 64 0)).toList.take 0 ++ Lib.byteCells key.data.toList ++ (cells8 (List.replicate 64 0)).toList.drop (0 + key.size)).toArray = cells8 (klong key) := by
      unfold cells8 klong bytesOf
      rw [List.map_append, List.map_replicate, List.map_replicate]
      congr 1
      rw [show (List.replicate 64 (Value.int .u8 0)).toArray.toList = List.replicate 64 (Value.int .u8 0) from rfl, List.take_zero, List.nil_append, Nat.zero_add, List.drop_replicate]
      congr 1
      simp [Lib.byteCells, List.map_map, Function.comp_def]
    rw [e] at h2 ⊢
    exact h2
  · intro B w0 hb hB
    exact below_setRow hb hB _
theorem tl_len (b : Int) : ∀ f i xs, (tl b f i xs).length = xs.length := by
  intro f
  induction f with
  | zero => intro i xs; rfl
  | succ f ih => intro i xs; rw [tl, ih, List.length_set]
set_option maxHeartbeats 2000000 in
set_option maxRecDepth 100000 in
theorem turned1 (key : ByteArray) (hk : key.size ≤ 64) (b : Int) (bk : Nat) (w : World) (hb : w.cell? ⟨bk, 0, none⟩ = some (.string key)) :
    Calls Try.prog 33 #[.int .u8 b, .pointer (some ⟨bk, 0, none⟩)] w fun e w' => e = .returned (.string (turnF key b)) ∧ Below w.heap.size w w' := by
  have hmk : ∀ w : World, (Instr.makeSlice 26 (.int .i64 64) (.int .i64 64)).run Try.prog w = .ok (.slice (some ⟨w.heap.size, 0, none⟩) 64 64) (w.alloc (.cells (cells8 (List.replicate 64 0)) 5)) := fun _ => by kernel_rfl
  have hbk : bk < w.heap.size := World.block_lt_of_cell? w _ hb
  obtain ⟨w1, hcp, hc1, hbl⟩ := copied (w.alloc (.cells (cells8 (List.replicate 64 0)) 5)) w.heap.size key hk (blk_new w _)
  obtain ⟨Z, hZ⟩ : ∃ Z, cells8 (List.replicate 64 0) = Z := ⟨_, rfl⟩
  rw [hZ] at hcp hbl
  simp only [hZ] at hmk
  clear hZ
  have hB1 := hbl w.heap.size w ((Below.refl _ _).alloc (Nat.le_refl _) _) (Nat.le_refl _)
  obtain ⟨fin, hfin⟩ : ∃ fin, tl b 64 0 (klong key) = fin := ⟨_, rfl⟩
  have HF : Hid (turnF key b = strOfNums fin) := hid (by rw [turnF, hfin])
  have hfl : fin.length = 64 := by rw [← hfin, tl_len, klong_len key hk]
  have hkl := klong_len key hk
  replace hfin := hid hfin
  have HC := hid (And.intro hc1 hB1)
  clear hc1 hB1 hbl
  have hne := World.new_ne w ⟨bk, 0, none⟩ hb
  go_enter Try.func33, Try.ntmps33
  go_wp2_with fail
  clear hb hne hbk hmk hcp
  go_loopw [5, 12] (fun v5 v12 wr => ∃ (i : Nat) (xs : List Int), v12 = .int .i64 (i : Int) ∧ i ≤ 64 ∧ xs.length = 64 ∧ wr.heap[w.heap.size]? = some (.cells (cells8 xs) 5 (0, 0)) ∧ Hid (Below w.heap.size w wr) ∧ Hid (tl b (64 - i) i xs = fin)) (fun v5 v12 _ => 64 - (intOf v12).toNat)
  case atStart => exact ⟨0, klong key, rfl, by decide, hkl, HC.out.1, hid HC.out.2, hfin⟩
  case round =>
    clear HC
    obtain ⟨i, xs, rfl, hi, hl, hc, hbw, HP⟩ := hrel
    by_cases hlt : i < 64
    · have hlt2 : (i : Int) < 64 := by omega
      have e5 : (0 : Int) ≤ (i : Int) := by omega
      have c0 : wr.cell? ⟨w.heap.size, i, none⟩ = some (.int .u8 (xs.getD i 0)) := (blk_cell hc i).trans (cells8_at xs i (by omega))
      have f0 := blk_frozen hc i
      have hP := HP.out
      rw [show 64 - i = (64 - (i + 1)) + 1 by omega, tl] at hP
      replace hP := hid hP
      have hs := hid (cells8_set xs i (Go.bits .xor .u8 (xs.getD i 0) b))
      have hl2 : (xs.set i (Go.bits .xor .u8 (xs.getD i 0) b)).length = 64 := by rw [List.length_set]; exact hl
      have HC := hid hc
      clear hc HP
      generalize xs.set i (Go.bits .xor .u8 (xs.getD i 0) b) = xs2 at *
      generalize xs.getD i 0 = x at *
      go_wp2_with fail
      go_roundw
      case rel => exact ⟨i + 1, xs2, by go_num, by omega, hl2, by rw [← hs.out]; exact blk_set HC.out i _, hid (hbw.out.setCell (p := ⟨w.heap.size, i, none⟩) (Nat.le_refl _) _), hP⟩
      case measure => simp [intOf]; omega
    · have hi4 : i = 64 := by omega
      subst hi4
      have hP : xs = fin := HP.out
      subst hP
      have hcv : (convert 26 9 (.slice (some ⟨w.heap.size, 0, none⟩) 64 64)).run Try.prog wr = .ok (.string (strOfNums xs)) wr :=
        run_convert_bytes_arg (P := Try.prog) _ 26 5 Try.underlying26 Try.underlying5 w.heap.size 0 64 64 xs hl (fun j hj => by
          rw [Nat.zero_add]
          refine (blk_cell hc j).trans ((cells8_at xs j (by omega)).trans ?_)
          rfl) 9 Try.underlying9
      clear HP hlt hi hc hfin
      replace hl := hid hl
      replace hfl := hid hfl
      go_wp2_with fail
      go_ret
      exact ⟨by rw [HF.out]; rfl, hbw.out⟩
set_option maxHeartbeats 2000000 in
set_option maxRecDepth 100000 in
theorem turned2 (key : ByteArray) (hk : key.size ≤ 64) (b : Int) (w : World) :
    Calls Try.prog 34 #[.string key, .int .u8 b] w fun e w' => e = .returned (.string (turnF key b)) ∧ Below w.heap.size w w' := by
  have hmk : ∀ w : World, (Instr.makeSlice 26 (.int .i64 64) (.int .i64 64)).run Try.prog w = .ok (.slice (some ⟨w.heap.size, 0, none⟩) 64 64) (w.alloc (.cells (cells8 (List.replicate 64 0)) 5)) := fun _ => by kernel_rfl
  obtain ⟨w1, hcp, hc1, hbl⟩ := copied (w.alloc (.cells (cells8 (List.replicate 64 0)) 5)) w.heap.size key hk (blk_new w _)
  obtain ⟨Z, hZ⟩ : ∃ Z, cells8 (List.replicate 64 0) = Z := ⟨_, rfl⟩
  rw [hZ] at hcp hbl
  simp only [hZ] at hmk
  clear hZ
  have hB1 := hbl w.heap.size w ((Below.refl _ _).alloc (Nat.le_refl _) _) (Nat.le_refl _)
  obtain ⟨fin, hfin⟩ : ∃ fin, tl b 64 0 (klong key) = fin := ⟨_, rfl⟩
  have HF : Hid (turnF key b = strOfNums fin) := hid (by rw [turnF, hfin])
  have hfl : fin.length = 64 := by rw [← hfin, tl_len, klong_len key hk]
  have hkl := klong_len key hk
  replace hfin := hid hfin
  have HC := hid (And.intro hc1 hB1)
  clear hc1 hB1 hbl
  go_enter Try.func34, Try.ntmps34
  go_wp2_with fail
  clear hcp hmk
  go_loopw [6] (fun v6 wr => ∃ (i : Nat) (xs : List Int), v6 = .int .i64 (i : Int) ∧ i ≤ 64 ∧ xs.length = 64 ∧ wr.heap[w.heap.size]? = some (.cells (cells8 xs) 5 (0, 0)) ∧ Hid (Below w.heap.size w wr) ∧ Hid (tl b (64 - i) i xs = fin)) (fun v6 _ => 64 - (intOf v6).toNat)
  case atStart => exact ⟨0, klong key, rfl, by decide, hkl, HC.out.1, hid HC.out.2, hfin⟩
  case round =>
    clear HC
    obtain ⟨i, xs, rfl, hi, hl, hc, hbw, HP⟩ := hrel
    by_cases hlt : i < 64
    · have hlt2 : (i : Int) < 64 := by omega
      have e5 : (0 : Int) ≤ (i : Int) := by omega
      have c0 : wr.cell? ⟨w.heap.size, i, none⟩ = some (.int .u8 (xs.getD i 0)) := (blk_cell hc i).trans (cells8_at xs i (by omega))
      have f0 := blk_frozen hc i
      have hP := HP.out
      rw [show 64 - i = (64 - (i + 1)) + 1 by omega, tl] at hP
      replace hP := hid hP
      have hs := hid (cells8_set xs i (Go.bits .xor .u8 (xs.getD i 0) b))
      have hl2 : (xs.set i (Go.bits .xor .u8 (xs.getD i 0) b)).length = 64 := by rw [List.length_set]; exact hl
      have HC := hid hc
      clear hc HP
      generalize xs.set i (Go.bits .xor .u8 (xs.getD i 0) b) = xs2 at *
      generalize xs.getD i 0 = x at *
      go_wp2_with fail
      go_roundw
      case rel => exact ⟨i + 1, xs2, by go_num, by omega, hl2, by rw [← hs.out]; exact blk_set HC.out i _, hid (hbw.out.setCell (p := ⟨w.heap.size, i, none⟩) (Nat.le_refl _) _), hP⟩
      case measure => simp [intOf]; omega
    · have hi4 : i = 64 := by omega
      subst hi4
      have hP : xs = fin := HP.out
      subst hP
      have hcv : (convert 26 9 (.slice (some ⟨w.heap.size, 0, none⟩) 64 64)).run Try.prog wr = .ok (.string (strOfNums xs)) wr :=
        run_convert_bytes_arg (P := Try.prog) _ 26 5 Try.underlying26 Try.underlying5 w.heap.size 0 64 64 xs hl (fun j hj => by
          rw [Nat.zero_add]
          refine (blk_cell hc j).trans ((cells8_at xs j (by omega)).trans ?_)
          rfl) 9 Try.underlying9
      clear HP hlt hi hc hfin
      replace hl := hid hl
      replace hfl := hid hfl
      go_wp2_with fail
      go_ret
      exact ⟨by rw [HF.out]; rfl, hbw.out⟩
end Go.Proofs.Ytakbdknmfaoppaa.R
