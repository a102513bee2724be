-- Written by a program of this session (gp.py), which drives the print with some lines turned. Not trusted: Lean checks it.
import Derived.Test.YtakbdknmfaoppaaQx0
namespace Go.Proofs.Ytakbdknmfaoppaa.Q
open Go.RowKit Go.Proofs.YtakbdknmfaoppaaW.PrintWords Go.Proofs.YtakbdknmfaoppaaW.PrintLast Go.Proofs.YtakbdknmfaoppaaW.PrintMore
attribute [local go_sem] max2_int min2_int max_two min_two max_three min_three max_four min_four P.emod_u8 P.emod_u16 P.emod_u32 P.xmax32
set_option linter.unusedVariables false
set_option linter.unusedSimpArgs false

/-! ### bailiwickref03_Sum: function 13 -/
mutual
def bailiwickref03_Sum.l0 : Nat → List Int → List Int → ByteArray → Int → Option (ByteArray)
  | 0, _, _, _, _ => none
  | k + 1, x3, x4, x5, x6 => if x6 < (x5.size : Int) then (if 0 ≤ x6 then (if x6 ≤ (wrap64 (x6 + 64)) then (if (wrap64 (x6 + 64)) ≤ (x5.size : Int) then ((Go.Proofs.Ytakbdknmfaoppaa.P.bailiwickref03_spread.f k (x5.extract (x6 : Int).toNat ((wrap64 (x6 + 64)) : Int).toNat)).bind fun t108 => (if ([] : List Int).length + x3.length < 35184372088832 then (bailiwickref03_Sum.l1 k x3 x4 x5 x6 t108 (([] : List Int) ++ x3) 0) else (none))) else (none)) else (none)) else (none)) else (bailiwickref03_Sum.l3 k x3 ([] : List Int) 0)
def bailiwickref03_Sum.l1 : Nat → List Int → List Int → ByteArray → Int → List Int → List Int → Int → Option (ByteArray)
  | 0, _, _, _, _, _, _, _ => none
  | k + 1, x3, x4, x5, x6, x7, x8, x9 => if x9 < 64 then (if 0 < (x8.length : Int) then (if 4 < (x8.length : Int) then (if 7 < (x8.length : Int) then ((Go.Proofs.Ytakbdknmfaoppaa.P.bailiwickref03_right.f (rd x8 4) 6).bind fun t117 => ((Go.Proofs.Ytakbdknmfaoppaa.P.bailiwickref03_right.f (rd x8 4) 11).bind fun t118 => ((Go.Proofs.Ytakbdknmfaoppaa.P.bailiwickref03_right.f (rd x8 4) 25).bind fun t119 => (if 5 < (x8.length : Int) then (if 6 < (x8.length : Int) then (if 0 ≤ x9 then (if x9 < (x4.length : Int) then (if x9 < (x7.length : Int) then ((Go.Proofs.Ytakbdknmfaoppaa.P.bailiwickref03_right.f (rd x8 0) 2).bind fun t124 => ((Go.Proofs.Ytakbdknmfaoppaa.P.bailiwickref03_right.f (rd x8 0) 13).bind fun t125 => ((Go.Proofs.Ytakbdknmfaoppaa.P.bailiwickref03_right.f (rd x8 0) 22).bind fun t126 => (if 1 < (x8.length : Int) then (if 2 < (x8.length : Int) then (if 3 < (x8.length : Int) then (bailiwickref03_Sum.l1 k x3 x4 x5 x6 x7 (([((((((((((rd x8 7) + (Go.bits .xor .u32 (Go.bits .xor .u32 t117 t118) t119)) % 4294967296) + (Go.bits .xor .u32 (Go.bits .and .u32 (rd x8 4) (rd x8 5)) (Go.bits .and .u32 (Go.bits .xor .u32 4294967295 (rd x8 4)) (rd x8 6)))) % 4294967296) + (rd x4 x9)) % 4294967296) + (rd x7 x9)) % 4294967296) + (((Go.bits .xor .u32 (Go.bits .xor .u32 t124 t125) t126) + (Go.bits .xor .u32 (Go.bits .xor .u32 (Go.bits .and .u32 (rd x8 0) (rd x8 1)) (Go.bits .and .u32 (rd x8 0) (rd x8 2))) (Go.bits .and .u32 (rd x8 1) (rd x8 2)))) % 4294967296)) % 4294967296, rd x8 0, rd x8 1, rd x8 2, ((rd x8 3) + (((((((((rd x8 7) + (Go.bits .xor .u32 (Go.bits .xor .u32 t117 t118) t119)) % 4294967296) + (Go.bits .xor .u32 (Go.bits .and .u32 (rd x8 4) (rd x8 5)) (Go.bits .and .u32 (Go.bits .xor .u32 4294967295 (rd x8 4)) (rd x8 6)))) % 4294967296) + (rd x4 x9)) % 4294967296) + (rd x7 x9)) % 4294967296)) % 4294967296, rd x8 4, rd x8 5, rd x8 6] : List Int)) (wrap64 (x9 + 1))) else (none)) else (none)) else (none))))) else (none)) else (none)) else (none)) else (none)) else (none))))) else (none)) else (none)) else (none)) else (bailiwickref03_Sum.l2 k x3 x4 x5 x6 x8 0)
def bailiwickref03_Sum.l2 : Nat → List Int → List Int → ByteArray → Int → List Int → Int → Option (ByteArray)
  | 0, _, _, _, _, _, _ => none
  | k + 1, x3, x4, x5, x6, x8, x14 => if x14 < 8 then (if 0 ≤ x14 then (if x14 < (x3.length : Int) then (if x14 < (x8.length : Int) then (bailiwickref03_Sum.l2 k (x3.set (x14 : Int).toNat (((rd x3 x14) + (rd x8 x14)) % 4294967296)) x4 x5 x6 x8 (wrap64 (x14 + 1))) else (none)) else (none)) else (none)) else (bailiwickref03_Sum.l0 k x3 x4 x5 (wrap64 (x6 + 64)))
def bailiwickref03_Sum.l3 : Nat → List Int → List Int → Int → Option (ByteArray)
  | 0, _, _, _ => none
  | k + 1, x3, x15, x16 => if x16 < 8 then (if 0 ≤ x16 then (if x16 < (x3.length : Int) then ((some (([((rd x3 x16) / 16777216) % 256, ((rd x3 x16) / 65536) % 256, ((rd x3 x16) / 256) % 256, (rd x3 x16) % 256] : List Int) : List Int)).bind fun y146 => (if x15.length + y146.length < 140737488355328 then (bailiwickref03_Sum.l3 k x3 (x15 ++ y146) (wrap64 (x16 + 1))) else (none))) else (none)) else (none)) else (some (strOfNums x15))
end
def bailiwickref03_Sum.f (k : Nat) (a0 : ByteArray) : Option (ByteArray) := (Go.Proofs.Ytakbdknmfaoppaa.P.bailiwickref03_first.f).bind fun t101 => ((Go.Proofs.Ytakbdknmfaoppaa.P.bailiwickref03_words.f).bind fun t104 => ((Go.Proofs.Ytakbdknmfaoppaa.P.bailiwickref03_padded.f k a0).bind fun t107 => (bailiwickref03_Sum.l0 k t101 t104 t107 0)))
theorem bailiwickref03_Sum.mono_l : ∀ k, (∀ y0 y1 y2 y3, LeO (bailiwickref03_Sum.l0 k y0 y1 y2 y3) (bailiwickref03_Sum.l0 (k + 1) y0 y1 y2 y3)) ∧ (∀ y0 y1 y2 y3 y4 y5 y6, LeO (bailiwickref03_Sum.l1 k y0 y1 y2 y3 y4 y5 y6) (bailiwickref03_Sum.l1 (k + 1) y0 y1 y2 y3 y4 y5 y6)) ∧ (∀ y0 y1 y2 y3 y4 y5, LeO (bailiwickref03_Sum.l2 k y0 y1 y2 y3 y4 y5) (bailiwickref03_Sum.l2 (k + 1) y0 y1 y2 y3 y4 y5)) ∧ (∀ y0 y1 y2, LeO (bailiwickref03_Sum.l3 k y0 y1 y2) (bailiwickref03_Sum.l3 (k + 1) y0 y1 y2))
  | 0 => ⟨fun _ _ _ _ r h => by simp [bailiwickref03_Sum.l0] at h, fun _ _ _ _ _ _ _ r h => by simp [bailiwickref03_Sum.l1] at h, fun _ _ _ _ _ _ r h => by simp [bailiwickref03_Sum.l2] at h, fun _ _ _ r h => by simp [bailiwickref03_Sum.l3] at h⟩
  | k + 1 => by
    obtain ⟨ih0, ih1, ih2, ih3⟩ := bailiwickref03_Sum.mono_l k
    refine ⟨?_, ?_, ?_, ?_⟩
    · intro y0 y1 y2 y3
      unfold bailiwickref03_Sum.l0
      repeat' first
      | (with_reducible exact ih0 _ _ _ _)
      | (with_reducible exact ih1 _ _ _ _ _ _ _)
      | (with_reducible exact ih2 _ _ _ _ _ _)
      | (with_reducible exact ih3 _ _ _)
      | (with_reducible exact Go.Proofs.Ytakbdknmfaoppaa.P.bailiwickref03_padded.mono _ _)
      | (with_reducible exact Go.Proofs.Ytakbdknmfaoppaa.P.bailiwickref03_spread.mono _ _)
      | (with_reducible exact LeO.refl _)
      | (with_reducible exact LeO.none _)
      | (with_reducible refine LeO.ite ?_ ?_)
      | (with_reducible refine LeO.bind ?_ (fun _ => ?_))
      | exact ih0 _ _ _ _
      | exact ih1 _ _ _ _ _ _ _
      | exact ih2 _ _ _ _ _ _
      | exact ih3 _ _ _
      | exact Go.Proofs.Ytakbdknmfaoppaa.P.bailiwickref03_padded.mono _ _
      | exact Go.Proofs.Ytakbdknmfaoppaa.P.bailiwickref03_spread.mono _ _
      | exact LeO.none _
      | refine LeO.ite ?_ ?_
      | refine LeO.bind ?_ (fun _ => ?_)
    · intro y0 y1 y2 y3 y4 y5 y6
      unfold bailiwickref03_Sum.l1
      repeat' first
      | (with_reducible exact ih0 _ _ _ _)
      | (with_reducible exact ih1 _ _ _ _ _ _ _)
      | (with_reducible exact ih2 _ _ _ _ _ _)
      | (with_reducible exact ih3 _ _ _)
      | (with_reducible exact Go.Proofs.Ytakbdknmfaoppaa.P.bailiwickref03_padded.mono _ _)
      | (with_reducible exact Go.Proofs.Ytakbdknmfaoppaa.P.bailiwickref03_spread.mono _ _)
      | (with_reducible exact LeO.refl _)
      | (with_reducible exact LeO.none _)
      | (with_reducible refine LeO.ite ?_ ?_)
      | (with_reducible refine LeO.bind ?_ (fun _ => ?_))
      | exact ih0 _ _ _ _
      | exact ih1 _ _ _ _ _ _ _
      | exact ih2 _ _ _ _ _ _
      | exact ih3 _ _ _
      | exact Go.Proofs.Ytakbdknmfaoppaa.P.bailiwickref03_padded.mono _ _
      | exact Go.Proofs.Ytakbdknmfaoppaa.P.bailiwickref03_spread.mono _ _
      | exact LeO.none _
      | refine LeO.ite ?_ ?_
      | refine LeO.bind ?_ (fun _ => ?_)
    · intro y0 y1 y2 y3 y4 y5
      unfold bailiwickref03_Sum.l2
      repeat' first
      | (with_reducible exact ih0 _ _ _ _)
      | (with_reducible exact ih1 _ _ _ _ _ _ _)
      | (with_reducible exact ih2 _ _ _ _ _ _)
      | (with_reducible exact ih3 _ _ _)
      | (with_reducible exact Go.Proofs.Ytakbdknmfaoppaa.P.bailiwickref03_padded.mono _ _)
      | (with_reducible exact Go.Proofs.Ytakbdknmfaoppaa.P.bailiwickref03_spread.mono _ _)
      | (with_reducible exact LeO.refl _)
      | (with_reducible exact LeO.none _)
      | (with_reducible refine LeO.ite ?_ ?_)
      | (with_reducible refine LeO.bind ?_ (fun _ => ?_))
      | exact ih0 _ _ _ _
      | exact ih1 _ _ _ _ _ _ _
      | exact ih2 _ _ _ _ _ _
      | exact ih3 _ _ _
      | exact Go.Proofs.Ytakbdknmfaoppaa.P.bailiwickref03_padded.mono _ _
      | exact Go.Proofs.Ytakbdknmfaoppaa.P.bailiwickref03_spread.mono _ _
      | exact LeO.none _
      | refine LeO.ite ?_ ?_
      | refine LeO.bind ?_ (fun _ => ?_)
    · intro y0 y1 y2
      unfold bailiwickref03_Sum.l3
      repeat' first
      | (with_reducible exact ih0 _ _ _ _)
      | (with_reducible exact ih1 _ _ _ _ _ _ _)
      | (with_reducible exact ih2 _ _ _ _ _ _)
      | (with_reducible exact ih3 _ _ _)
      | (with_reducible exact Go.Proofs.Ytakbdknmfaoppaa.P.bailiwickref03_padded.mono _ _)
      | (with_reducible exact Go.Proofs.Ytakbdknmfaoppaa.P.bailiwickref03_spread.mono _ _)
      | (with_reducible exact LeO.refl _)
      | (with_reducible exact LeO.none _)
      | (with_reducible refine LeO.ite ?_ ?_)
      | (with_reducible refine LeO.bind ?_ (fun _ => ?_))
      | exact ih0 _ _ _ _
      | exact ih1 _ _ _ _ _ _ _
      | exact ih2 _ _ _ _ _ _
      | exact ih3 _ _ _
      | exact Go.Proofs.Ytakbdknmfaoppaa.P.bailiwickref03_padded.mono _ _
      | exact Go.Proofs.Ytakbdknmfaoppaa.P.bailiwickref03_spread.mono _ _
      | exact LeO.none _
      | refine LeO.ite ?_ ?_
      | refine LeO.bind ?_ (fun _ => ?_)
theorem bailiwickref03_Sum.mono : ∀ a0 k, LeO (bailiwickref03_Sum.f k a0) (bailiwickref03_Sum.f (k + 1) a0) := by
  intro a0 k
  obtain ⟨ih0, ih1, ih2, ih3⟩ := bailiwickref03_Sum.mono_l k
  unfold bailiwickref03_Sum.f
  repeat' first
      | (with_reducible exact ih0 _ _ _ _)
      | (with_reducible exact ih1 _ _ _ _ _ _ _)
      | (with_reducible exact ih2 _ _ _ _ _ _)
      | (with_reducible exact ih3 _ _ _)
      | (with_reducible exact Go.Proofs.Ytakbdknmfaoppaa.P.bailiwickref03_padded.mono _ _)
      | (with_reducible exact Go.Proofs.Ytakbdknmfaoppaa.P.bailiwickref03_spread.mono _ _)
      | (with_reducible exact LeO.refl _)
      | (with_reducible exact LeO.none _)
      | (with_reducible refine LeO.ite ?_ ?_)
      | (with_reducible refine LeO.bind ?_ (fun _ => ?_))
      | exact ih0 _ _ _ _
      | exact ih1 _ _ _ _ _ _ _
      | exact ih2 _ _ _ _ _ _
      | exact ih3 _ _ _
      | exact Go.Proofs.Ytakbdknmfaoppaa.P.bailiwickref03_padded.mono _ _
      | exact Go.Proofs.Ytakbdknmfaoppaa.P.bailiwickref03_spread.mono _ _
      | exact LeO.none _
      | refine LeO.ite ?_ ?_
      | refine LeO.bind ?_ (fun _ => ?_)
def bailiwickref03_Sum.T14 : Bool × List (List Nat × List Nat) := (true, [([], []), ([0], [0]), ([1], [1]), ([], []), ([3], [3]), ([], []), ([5, 4], [5]), ([4, 6], [4, 6]), ([], []), ([8, 6], [8]), ([7, 9], [7, 9]), ([2, 10], [2, 10]), ([], []), ([], []), ([13], [13]), ([14], [14]), ([12, 15], [12, 15]), ([], []), ([17], [17]), ([], []), ([19], [19]), ([20], [20]), ([18, 21], [18, 21]), ([16, 22], [16, 22]), ([11, 23], [11, 23]), ([], []), ([], []), ([25, 26], [25, 26]), ([27], [27]), ([24, 28], [24, 28]), ([], []), ([], []), ([30, 31], [30, 31]), ([32], [32]), ([29, 33], [29, 33]), ([34, 9, 0, 1, 2, 3, 4, 5, 6, 7, 8, 9, 10, 11, 12, 13, 14, 15, 16, 17, 18, 19, 20, 21, 22, 23, 24, 25, 26, 27, 28, 29, 30, 31, 32, 33, 34], [34])])
def bailiwickref03_Sum.B14 : List Nat := [0, 1, 3, 0, 8, 0, 56, 120, 0, 376, 1016, 2047, 0, 0, 8192, 24576, 61440, 0, 131072, 0, 524288, 1572864, 4063232, 8384512, 16777215, 0, 0, 100663296, 234881024, 536870911, 0, 0, 3221225472, 7516192768, 17179869183, 34359738367]
theorem bailiwickref03_Sum.tab14 : rtab .any (opsOf Try.f13 14) = bailiwickref03_Sum.T14 := by kernel_rfl
theorem bailiwickref03_Sum.bits14 : waitsOk bailiwickref03_Sum.T14.2 bailiwickref03_Sum.B14 = true := by kernel_rfl
def bailiwickref03_Sum.T15 : Bool × List (List Nat × List Nat) := (true, [([], []), ([0], [0]), ([], []), ([2, 1], [2]), ([1, 3], [1, 3]), ([], []), ([5, 3], [5]), ([4, 6], [4, 6]), ([], []), ([], []), ([9], [9]), ([10], [10]), ([8, 11], [8, 11]), ([], []), ([], []), ([14], [14]), ([15], [15]), ([13, 16], [13, 16]), ([12, 17], [12, 17]), ([], []), ([19], [19]), ([20], [20]), ([], []), ([22], [22]), ([23], [23]), ([21, 24], [21, 24]), ([18, 25], [18, 25]), ([7, 26], [7, 26]), ([27, 6, 0, 1, 2, 3, 4, 5, 6, 7, 8, 9, 10, 11, 12, 13, 14, 15, 16, 17, 18, 19, 20, 21, 22, 23, 24, 25, 26, 27], [27])])
def bailiwickref03_Sum.B15 : List Nat := [0, 1, 0, 7, 15, 0, 47, 127, 0, 0, 512, 1536, 3840, 0, 0, 16384, 49152, 122880, 261888, 0, 524288, 1572864, 0, 4194304, 12582912, 33030144, 67108608, 134217727, 268435455]
theorem bailiwickref03_Sum.tab15 : rtab .any (opsOf Try.f13 15) = bailiwickref03_Sum.T15 := by kernel_rfl
theorem bailiwickref03_Sum.bits15 : waitsOk bailiwickref03_Sum.T15.2 bailiwickref03_Sum.B15 = true := by kernel_rfl
def bailiwickref03_Sum.T16 : Bool × List (List Nat × List Nat) := (true, [([], []), ([], []), ([0, 1], [0, 1]), ([], []), ([], []), ([4], [4]), ([5], [5]), ([], []), ([7], [7]), ([8], [8]), ([], []), ([10], [10]), ([11], [11]), ([], []), ([12, 13], [12, 13]), ([], []), ([], []), ([16], [16]), ([17], [17]), ([], []), ([19], [19]), ([20], [20]), ([2, 3, 6, 9, 14, 15, 18, 21], [2, 3, 6, 9, 14, 15, 18, 21]), ([22, 0, 1, 2, 3, 4, 5, 6, 7, 8, 9, 10, 11, 12, 13, 14, 15, 16, 17, 18, 19, 20, 21, 22], [4, 7, 10, 16, 19, 22])])
def bailiwickref03_Sum.B16 : List Nat := [0, 0, 3, 0, 0, 16, 48, 0, 128, 384, 0, 1024, 3072, 0, 15360, 0, 0, 65536, 196608, 0, 524288, 1572864, 4194303, 8388607]
theorem bailiwickref03_Sum.tab16 : rtab .any (opsOf Try.f13 16) = bailiwickref03_Sum.T16 := by kernel_rfl
theorem bailiwickref03_Sum.bits16 : waitsOk bailiwickref03_Sum.T16.2 bailiwickref03_Sum.B16 = true := by kernel_rfl
def bailiwickref03_Sum.T20 : Bool × List (List Nat × List Nat) := (true, [([], []), ([], []), ([], []), ([], []), ([2, 3], [2, 3]), ([4], [4]), ([], []), ([], []), ([6, 7], [6, 7]), ([8], [8]), ([5, 9], [5, 9]), ([0, 1, 0, 1, 2, 3, 4, 5, 6, 7, 8, 9, 10], [0, 1]), ([11, 10, 0, 1, 2, 3, 4, 5, 6, 7, 8, 9, 10], [10, 11])])
def bailiwickref03_Sum.B20 : List Nat := [0, 0, 0, 0, 12, 28, 0, 0, 192, 448, 1020, 2047, 4095]
theorem bailiwickref03_Sum.tab20 : rtab .any (opsOf Try.f13 20) = bailiwickref03_Sum.T20 := by kernel_rfl
theorem bailiwickref03_Sum.bits20 : waitsOk bailiwickref03_Sum.T20.2 bailiwickref03_Sum.B20 = true := by kernel_rfl
def bailiwickref03_Sum.T25 : Bool × List (List Nat × List Nat) := (true, [([], []), ([], []), ([], []), ([1, 2], [1, 2]), ([3], [3]), ([4], [4]), ([5], [5]), ([], []), ([], []), ([7, 8], [7, 8]), ([9], [9]), ([10], [10]), ([11], [11]), ([], []), ([], []), ([13, 14], [13, 14]), ([15], [15]), ([16], [16]), ([17], [17]), ([], []), ([], []), ([19, 20], [19, 20]), ([21], [21]), ([22], [22]), ([6, 12, 18, 23], [6, 12, 18, 23]), ([0, 24], [0, 24]), ([25, 25, 0, 1, 2, 3, 4, 5, 6, 7, 8, 9, 10, 11, 12, 13, 14, 15, 16, 17, 18, 19, 20, 21, 22, 23, 24, 25], [0, 25])])
def bailiwickref03_Sum.B25 : List Nat := [0, 0, 0, 6, 14, 30, 62, 0, 0, 384, 896, 1920, 3968, 0, 0, 24576, 57344, 122880, 253952, 0, 0, 1572864, 3670016, 7864320, 16777214, 33554431, 67108863]
theorem bailiwickref03_Sum.tab25 : rtab .any (opsOf Try.f13 25) = bailiwickref03_Sum.T25 := by kernel_rfl
theorem bailiwickref03_Sum.bits25 : waitsOk bailiwickref03_Sum.T25.2 bailiwickref03_Sum.B25 = true := by kernel_rfl
set_option maxHeartbeats 8000000 in
set_option maxRecDepth 100000 in
theorem bailiwickref03_Sum.calls (k : Nat) (a0 : ByteArray) (r : ByteArray) (w : World) (h : bailiwickref03_Sum.f k a0 = some r) :
    Calls Try.prog 13 #[.string a0] w fun e w' => e = .returned (.string r) ∧ Below w.heap.size w w' := by
  have HB := Aside0.mk (Below.refl w.heap.size w)
  have H : ((Go.Proofs.Ytakbdknmfaoppaa.P.bailiwickref03_first.f).bind fun t101 => ((Go.Proofs.Ytakbdknmfaoppaa.P.bailiwickref03_words.f).bind fun t104 => ((Go.Proofs.Ytakbdknmfaoppaa.P.bailiwickref03_padded.f k a0).bind fun t107 => (bailiwickref03_Sum.l0 k t101 t104 t107 0)))) = some r := h
  clear h
  replace H := Option.bind_eq_some_iff.mp H
  obtain ⟨t101, A20, H⟩ := H
  replace H : ((Go.Proofs.Ytakbdknmfaoppaa.P.bailiwickref03_words.f).bind fun t104 => ((Go.Proofs.Ytakbdknmfaoppaa.P.bailiwickref03_padded.f k a0).bind fun t107 => (bailiwickref03_Sum.l0 k t101 t104 t107 0))) = some r := H
  have A2 := Aside0.mk A20
  clear A20
  replace H := Option.bind_eq_some_iff.mp H
  obtain ⟨t104, A30, H⟩ := H
  replace H : ((Go.Proofs.Ytakbdknmfaoppaa.P.bailiwickref03_padded.f k a0).bind fun t107 => (bailiwickref03_Sum.l0 k t101 t104 t107 0)) = some r := H
  have A3 := Aside0.mk A30
  clear A30
  replace H := Option.bind_eq_some_iff.mp H
  obtain ⟨t107, A40, H⟩ := H
  replace H : (bailiwickref03_Sum.l0 k t101 t104 t107 0) = some r := H
  have A4 := Aside0.mk A40
  clear A40
  have H' := Aside0.mk H
  clear H
  go_enter Try.func13, Try.ntmps13
  (try dsimp only [List.append])
  go_wp2_with (first | ((with_reducible refine gate_callee (f := 26) rfl ?_); refine goesL_ (some 17) rfl rfl Try.func26 (by kernel_rfl) rfl #[] rfl (by (try simp only [List.map_toArray, List.map_cons, List.map_nil]); first | done | rfl | (simp only [List.length_drop, List.length_take]; rfl)) ?_; (with_reducible refine (Go.Proofs.Ytakbdknmfaoppaa.P.bailiwickref03_first.calls  t101 _ A2.out).mono ?_); rintro e w5 ⟨v102, rfl, ho0, hb⟩; refine ⟨_, rfl, ?_⟩; have n0_ := Aside0.mk (Kd.R_lower ho0 (below_size (by repeat (first | (with_reducible first | exact HB.out | apply below_alloc | apply pw_below_drewN | apply below_drew1) | exact HB.out)))); have n1_ := Aside0.mk (below_step (by repeat (first | (with_reducible first | exact HB.out | apply below_alloc | apply pw_below_drewN | apply below_drew1) | exact HB.out)) hb); clear HB; have HO103 := n0_; have HB := n1_; clear n0_ n1_; (try clear hb); (try clear hb2); (try clear hk); (try clear hi); (try clear ho0)) | ((with_reducible refine gate_callee (f := 27) rfl ?_); refine goesL_ (some 18) rfl rfl Try.func27 (by kernel_rfl) rfl #[] rfl (by (try simp only [List.map_toArray, List.map_cons, List.map_nil]); first | done | rfl | (simp only [List.length_drop, List.length_take]; rfl)) ?_; (with_reducible refine (Go.Proofs.Ytakbdknmfaoppaa.P.bailiwickref03_words.calls  t104 _ A3.out).mono ?_); rintro e w6 ⟨v105, rfl, ho0, hb⟩; refine ⟨_, rfl, ?_⟩; have n0_ := Aside0.mk (Kd.R_elder' (by (with_reducible repeat (first | apply Kd.R_alloc | apply Kd.R_drewN | apply Kd.R_drew)); exact HO103.out) (Kd.R_base ho0) hb); have n1_ := Aside0.mk (Kd.R_lower (Kd.R_new' ho0 (Kd.R_lt (by (with_reducible repeat (first | apply Kd.R_alloc | apply Kd.R_drewN | apply Kd.R_drew)); exact HO103.out))) (below_size (by repeat (first | (with_reducible first | exact HB.out | apply below_alloc | apply pw_below_drewN | apply below_drew1) | exact HB.out)))); have n2_ := Aside0.mk (below_step (by repeat (first | (with_reducible first | exact HB.out | apply below_alloc | apply pw_below_drewN | apply below_drew1) | exact HB.out)) hb); clear HO103; clear HB; have HO103 := n0_; have HO106 := n1_; have HB := n2_; clear n0_ n1_ n2_; (try clear hb); (try clear hb2); (try clear hk); (try clear hi); (try clear ho0)) | ((with_reducible refine gate_callee (f := 28) rfl ?_); refine goesL_ (some 20) rfl rfl Try.func28 (by kernel_rfl) rfl #[.string a0] rfl (by (try simp only [List.map_toArray, List.map_cons, List.map_nil]); first | done | rfl | (simp only [List.length_drop, List.length_take]; rfl)) ?_; (with_reducible refine (Go.Proofs.Ytakbdknmfaoppaa.P.bailiwickref03_padded.calls k a0 t107 _ A4.out).mono ?_); rintro e w7 ⟨rfl, hb⟩; refine ⟨_, rfl, ?_⟩; have n0_ := Aside0.mk (Kd.R_below (by (with_reducible repeat (first | apply Kd.R_alloc | apply Kd.R_drewN | apply Kd.R_drew)); exact HO103.out) hb); have n1_ := Aside0.mk (Kd.R_below (by (with_reducible repeat (first | apply Kd.R_alloc | apply Kd.R_drewN | apply Kd.R_drew)); exact HO106.out) hb); have n2_ := Aside0.mk (below_step (by repeat (first | (with_reducible first | exact HB.out | apply below_alloc | apply pw_below_drewN | apply below_drew1) | exact HB.out)) hb); clear HO103; clear HO106; clear HB; have HO103 := n0_; have HO106 := n1_; have HB := n2_; clear n0_ n1_ n2_; (try clear hb); (try clear hb2); (try clear hk); (try clear hi)))
  go_loopg [6] k (fun kq v6 w' => ∃ (x3_1 : List Int) (x6_1 : Int), v6 = .int .i64 x6_1 ∧ Aside0 (bailiwickref03_Sum.l0 kq x3_1 t104 t107 x6_1 = some r) ∧ Aside0 (kq ≤ k) ∧ Aside0 (Kd.R (Kd.int .u32) 34 w' w.heap.size (fun k_ => some k_ ≠ (v105 : Value).ownBlock) v102 x3_1) ∧ Aside0 (Kd.R (Kd.int .u32) 34 w' w.heap.size (fun k_ => some k_ ≠ (v102 : Value).ownBlock) v105 t104) ∧ Aside0 (Below w.heap.size w w'))
  case atStart => exact ⟨(t101), (0), (by first | rfl | (simp; done) | (simp [*]; done)), H', ⟨Nat.le_refl _⟩, ⟨by (with_reducible repeat (first | apply Kd.R_alloc | apply Kd.R_drewN | apply Kd.R_drew)); exact Kd.R_mono HO103.out (fun _ hk => hk.2)⟩, ⟨by (with_reducible repeat (first | apply Kd.R_alloc | apply Kd.R_drewN | apply Kd.R_drew)); exact Kd.R_mono HO106.out (fun _ hk => hk.2)⟩, ⟨by repeat (first | (with_reducible first | exact HB.out | apply below_alloc | apply pw_below_drewN | apply below_drew1) | exact HB.out)⟩⟩
  case round =>
    clear H'
    try clear c1
    try clear c2
    try clear p2
    obtain ⟨x3_1, x6_1, rfl, HA, HK1, HO_3, HO_4, HB⟩ := hrel
    cases gk with
    | zero => exact absurd HA.out (by simp [bailiwickref03_Sum.l0])
    | succ k1 =>
      have H := HA.out
      clear HA
      simp only [bailiwickref03_Sum.l0] at H
      by_cases c8 : x6_1 < (t107.size : Int)
      · rw [if_pos c8] at H
        have c8b0 : decide (x6_1 < (t107.size : Int)) = true := decide_eq_true c8
        clear c8
        by_cases c9 : 0 ≤ x6_1
        · rw [if_pos c9] at H
          have c9b0 := eq_true c9
          have c9b1 : decide (0 ≤ x6_1) = true := decide_eq_true c9
          clear c9
          by_cases c10 : x6_1 ≤ (wrap64 (x6_1 + 64))
          · rw [if_pos c10] at H
            have c10b0 := eq_true c10
            have c10b1 : decide (x6_1 ≤ (wrap64 (x6_1 + 64))) = true := decide_eq_true c10
            by_cases c11 : (wrap64 (x6_1 + 64)) ≤ (t107.size : Int)
            · rw [if_pos c11] at H
              have c11b0 := eq_true c11
              have c11b1 : decide ((wrap64 (x6_1 + 64)) ≤ (t107.size : Int)) = true := decide_eq_true c11
              replace H := Option.bind_eq_some_iff.mp H
              obtain ⟨t108, A120, H⟩ := H
              replace H : (if ([] : List Int).length + x3_1.length < 35184372088832 then (bailiwickref03_Sum.l1 k1 x3_1 t104 t107 x6_1 t108 (([] : List Int) ++ x3_1) 0) else (none)) = some r := H
              have A12 := Aside0.mk A120
              clear A120
              by_cases c13 : ([] : List Int).length + x3_1.length < 35184372088832
              · rw [if_pos c13] at H
                have LMc13 := Aside0.mk c13
                clear c13
                obtain ⟨y111, hy111⟩ : ∃ y_ : List Int, y_ = (([] : List Int) ++ x3_1) := ⟨_, rfl⟩
                replace H : (bailiwickref03_Sum.l1 k1 x3_1 t104 t107 x6_1 t108 y111 0) = some r := by first | (rw [hy111]; with_reducible exact H) | (have H2_ := (Option.bind_some _ _).symm.trans H; rw [hy111]; with_reducible exact H2_) | (have H2_ := (Option.bind_some _ _).symm.trans H; with_reducible exact H2_) | with_reducible exact H | (rw [hy111]; exact H) | exact H
                have Ny111 := Aside0.mk hy111
                clear hy111
                have H' := Aside0.mk H
                clear H
                go_wp2_with (first | ((with_reducible refine gate_callee (f := 29) rfl ?_); refine goesL_ (some 32) rfl rfl Try.func29 (by kernel_rfl) rfl #[.string (t107.extract (x6_1 : Int).toNat ((wrap64 (x6_1 + 64)) : Int).toNat)] rfl (by (try simp only [List.map_toArray, List.map_cons, List.map_nil]); first | done | rfl | (simp only [List.length_drop, List.length_take]; rfl)) ?_; (with_reducible refine (Go.Proofs.Ytakbdknmfaoppaa.P.bailiwickref03_spread.calls k1 (t107.extract (x6_1 : Int).toNat ((wrap64 (x6_1 + 64)) : Int).toNat) t108 _ A12.out).mono ?_); rintro e w14 ⟨v109, rfl, ho0, hb⟩; refine ⟨_, rfl, ?_⟩; have n0_ := Aside0.mk (Kd.R_elder' (by (with_reducible repeat (first | apply Kd.R_alloc | apply Kd.R_drewN | apply Kd.R_drew)); exact HO_3.out) (Kd.R_base ho0) hb); have n1_ := Aside0.mk (Kd.R_elder' (by (with_reducible repeat (first | apply Kd.R_alloc | apply Kd.R_drewN | apply Kd.R_drew)); exact HO_4.out) (Kd.R_base ho0) hb); have n2_ := Aside0.mk (Kd.R_lower (Kd.R_new' (Kd.R_new' ho0 (Kd.R_lt (by (with_reducible repeat (first | apply Kd.R_alloc | apply Kd.R_drewN | apply Kd.R_drew)); exact HO_3.out))) (Kd.R_lt (by (with_reducible repeat (first | apply Kd.R_alloc | apply Kd.R_drewN | apply Kd.R_drew)); exact HO_4.out))) (below_size (by repeat (first | (with_reducible first | exact HB.out | apply below_alloc | apply pw_below_drewN | apply below_drew1) | exact HB.out)))); have n3_ := Aside0.mk (below_step (by repeat (first | (with_reducible first | exact HB.out | apply below_alloc | apply pw_below_drewN | apply below_drew1) | exact HB.out)) hb); clear HO_3; clear HO_4; clear HB; have HO_3 := n0_; have HO_4 := n1_; have HO110 := n2_; have HB := n3_; clear n0_ n1_ n2_ n3_; (try clear hb); (try clear hb2); (try clear hk); (try clear hi); (try clear ho0); obtain ⟨Ao16, co16, eo16⟩ := Kd.R_slice HO_3.out; subst eo16) | ((with_reducible refine gate_builtin (b := .append) (xs := #[.const (.slice none 0 0), .tmp 33]) rfl ?_); at_builtin; refine Kd.R_append_rows (Kd.int .u32) (w0 := w) w.heap.size rfl (.const (.slice none 0 0)) (.tmp 33) 44 34 (.int .u32 0) 4 rfl Try.underlying44 info34 rfl (by decide) (by omega) (.slice none 0 0) ([] : List Int) x3_1 _ _ _ (fun k_ => some k_ ≠ (.slice Ao16 x3_1.length co16 : Value).ownBlock ∧ some k_ ≠ (v105 : Value).ownBlock ∧ some k_ ≠ (v109 : Value).ownBlock) (fun _ => False) rfl rfl ?aO ?aR (fun _ _ h => h) (fun _ h => h.elim) ?aF ?aB ?aS ?aL ?_; (case aR => repeat (first | exact (Kd.R_reads' HO_3.out).2.2 | (with_reducible refine Kd.C_alloc ?_ _) | (with_reducible refine Kd.C_drewN ?_ _) | (with_reducible refine Kd.C_drew ?_))); (case aB => exact (by repeat (first | (with_reducible first | exact HB.out | apply below_alloc | apply pw_below_drewN | apply below_drew1) | exact HB.out))); (case aF => exact (fun k_ hk => ⟨Kd.fresh' (Kd.R_lt (by (with_reducible repeat (first | apply Kd.R_alloc | apply Kd.R_drewN | apply Kd.R_drew)); exact HO_3.out)) k_ hk, Kd.fresh' (Kd.R_lt (by (with_reducible repeat (first | apply Kd.R_alloc | apply Kd.R_drewN | apply Kd.R_drew)); exact HO_4.out)) k_ hk, Kd.fresh' (Kd.R_lt (by (with_reducible repeat (first | apply Kd.R_alloc | apply Kd.R_drewN | apply Kd.R_drew)); exact HO110.out)) k_ hk⟩)); (case aO => exact ((Kd.R_nil _ _ _ _ (fun k_ => some k_ ≠ (.slice Ao16 x3_1.length co16 : Value).ownBlock ∧ some k_ ≠ (v105 : Value).ownBlock ∧ some k_ ≠ (v109 : Value).ownBlock)))); (case aS => exact (below_size (by repeat (first | (with_reducible first | exact HB.out | apply below_alloc | apply pw_below_drewN | apply below_drew1) | exact HB.out)))); (case aL => have := LMc13.out; omega); intro v112 w15 ho hb hg hat; rw [← Ny111.out] at ho; have n0_ := Aside0.mk (Kd.R_after (Kd.R_apart_nil (by (with_reducible repeat (first | apply Kd.R_alloc | apply Kd.R_drewN | apply Kd.R_drew)); exact HO_3.out)) hg hat); have n1_ := Aside0.mk (Kd.R_after (Kd.R_apart_nil (by (with_reducible repeat (first | apply Kd.R_alloc | apply Kd.R_drewN | apply Kd.R_drew)); exact HO_4.out)) hg hat); have n2_ := Aside0.mk (Kd.R_after (Kd.R_apart_nil (by (with_reducible repeat (first | apply Kd.R_alloc | apply Kd.R_drewN | apply Kd.R_drew)); exact HO110.out)) hg hat); have n3_ := Aside0.mk (hb); have n4_ := Aside0.mk (ho); clear HO_3; clear HO_4; clear HO110; clear HB; have HO_3 := n0_; have HO_4 := n1_; have HO110 := n2_; have HB := n3_; have HO113 := n4_; clear n0_ n1_ n2_ n3_ n4_; clear ho hb hg hat))
                go_loopg [8, 9] k1 (fun kq v8 v9 w' => ∃ (x8_2 : List Int) (x9_2 : Int), v9 = .int .i64 x9_2 ∧ Aside0 (bailiwickref03_Sum.l1 kq x3_1 t104 t107 x6_1 t108 x8_2 x9_2 = some r) ∧ Aside0 (kq ≤ k1) ∧ Aside0 (Kd.R (Kd.int .u32) 34 w' w.heap.size (fun k_ => some k_ ≠ (v105 : Value).ownBlock ∧ some k_ ≠ (v109 : Value).ownBlock ∧ some k_ ≠ (v8 : Value).ownBlock) (.slice Ao16 x3_1.length co16) x3_1) ∧ Aside0 (Kd.R (Kd.int .u32) 34 w' w.heap.size (fun k_ => some k_ ≠ ((.slice Ao16 x3_1.length co16) : Value).ownBlock ∧ some k_ ≠ (v109 : Value).ownBlock ∧ some k_ ≠ (v8 : Value).ownBlock) v105 t104) ∧ Aside0 (Kd.R (Kd.int .u32) 34 w' w.heap.size (fun k_ => some k_ ≠ ((.slice Ao16 x3_1.length co16) : Value).ownBlock ∧ some k_ ≠ (v105 : Value).ownBlock ∧ some k_ ≠ (v8 : Value).ownBlock) v109 t108) ∧ Aside0 (Kd.R (Kd.int .u32) 34 w' w.heap.size (fun k_ => some k_ ≠ ((.slice Ao16 x3_1.length co16) : Value).ownBlock ∧ some k_ ≠ (v105 : Value).ownBlock ∧ some k_ ≠ (v109 : Value).ownBlock) v8 x8_2) ∧ Aside0 (Below w.heap.size w w'))
                case atStart => exact ⟨(y111), (0), (by first | rfl | (simp; done) | (simp [*]; done)), H', ⟨Nat.le_refl _⟩, ⟨by (with_reducible repeat (first | apply Kd.R_alloc | apply Kd.R_drewN | apply Kd.R_drew)); exact Kd.R_mono HO_3.out (fun _ hk => ⟨hk.1.1, ⟨hk.1.2, hk.2⟩⟩)⟩, ⟨by (with_reducible repeat (first | apply Kd.R_alloc | apply Kd.R_drewN | apply Kd.R_drew)); exact Kd.R_mono HO_4.out (fun _ hk => ⟨hk.1.1, ⟨hk.1.2, hk.2⟩⟩)⟩, ⟨by (with_reducible repeat (first | apply Kd.R_alloc | apply Kd.R_drewN | apply Kd.R_drew)); exact Kd.R_mono HO110.out (fun _ hk => ⟨hk.1.1.2, ⟨hk.1.2, hk.2⟩⟩)⟩, ⟨by (with_reducible repeat (first | apply Kd.R_alloc | apply Kd.R_drewN | apply Kd.R_drew)); exact HO113.out⟩, ⟨by repeat (first | (with_reducible first | exact HB.out | apply below_alloc | apply pw_below_drewN | apply below_drew1) | exact HB.out)⟩⟩
                case round =>
                  clear H'
                  try clear c1
                  try clear c2
                  try clear p2
                  try clear p6
                  try clear c8
                  try clear c8b0
                  try clear c9
                  try clear c9b0
                  try clear c9b1
                  try clear c10
                  try clear c10b0
                  try clear c10b1
                  try clear c11
                  try clear c11b0
                  try clear c11b1
                  try clear c13
                  try clear p2
                  obtain ⟨x8_2, x9_2, rfl, HA, HK2, HO_3, HO_4, HO_7, HO_8, HB⟩ := hrel
                  cases gk with
                  | zero => exact absurd HA.out (by simp [bailiwickref03_Sum.l1])
                  | succ k2 =>
                    have H := HA.out
                    clear HA
                    simp only [bailiwickref03_Sum.l1] at H
                    by_cases c17 : x9_2 < 64
                    · rw [if_pos c17] at H
                      have c17b0 : decide (x9_2 < 64) = true := decide_eq_true c17
                      clear c17
                      by_cases c18 : 0 < (x8_2.length : Int)
                      · rw [if_pos c18] at H
                        have c18b0 : decide (0 < (x8_2.length : Int)) = true := decide_eq_true c18
                        have c18b1 : decide (0 < x8_2.length) = true := decide_eq_true (by omega)
                        clear c18
                        by_cases c19 : 4 < (x8_2.length : Int)
                        · rw [if_pos c19] at H
                          have c19b0 : decide (4 < (x8_2.length : Int)) = true := decide_eq_true c19
                          have c19b1 : decide (4 < x8_2.length) = true := decide_eq_true (by omega)
                          clear c19
                          by_cases c20 : 7 < (x8_2.length : Int)
                          · rw [if_pos c20] at H
                            have c20b0 : decide (7 < (x8_2.length : Int)) = true := decide_eq_true c20
                            have c20b1 : decide (7 < x8_2.length) = true := decide_eq_true (by omega)
                            clear c20
                            replace H := Option.bind_eq_some_iff.mp H
                            obtain ⟨t117, A210, H⟩ := H
                            replace H : ((Go.Proofs.Ytakbdknmfaoppaa.P.bailiwickref03_right.f (rd x8_2 4) 11).bind fun t118 => ((Go.Proofs.Ytakbdknmfaoppaa.P.bailiwickref03_right.f (rd x8_2 4) 25).bind fun t119 => (if 5 < (x8_2.length : Int) then (if 6 < (x8_2.length : Int) then (if 0 ≤ x9_2 then (if x9_2 < (t104.length : Int) then (if x9_2 < (t108.length : Int) then ((Go.Proofs.Ytakbdknmfaoppaa.P.bailiwickref03_right.f (rd x8_2 0) 2).bind fun t124 => ((Go.Proofs.Ytakbdknmfaoppaa.P.bailiwickref03_right.f (rd x8_2 0) 13).bind fun t125 => ((Go.Proofs.Ytakbdknmfaoppaa.P.bailiwickref03_right.f (rd x8_2 0) 22).bind fun t126 => (if 1 < (x8_2.length : Int) then (if 2 < (x8_2.length : Int) then (if 3 < (x8_2.length : Int) then (bailiwickref03_Sum.l1 k2 x3_1 t104 t107 x6_1 t108 (([((((((((((rd x8_2 7) + (Go.bits .xor .u32 (Go.bits .xor .u32 t117 t118) t119)) % 4294967296) + (Go.bits .xor .u32 (Go.bits .and .u32 (rd x8_2 4) (rd x8_2 5)) (Go.bits .and .u32 (Go.bits .xor .u32 4294967295 (rd x8_2 4)) (rd x8_2 6)))) % 4294967296) + (rd t104 x9_2)) % 4294967296) + (rd t108 x9_2)) % 4294967296) + (((Go.bits .xor .u32 (Go.bits .xor .u32 t124 t125) t126) + (Go.bits .xor .u32 (Go.bits .xor .u32 (Go.bits .and .u32 (rd x8_2 0) (rd x8_2 1)) (Go.bits .and .u32 (rd x8_2 0) (rd x8_2 2))) (Go.bits .and .u32 (rd x8_2 1) (rd x8_2 2)))) % 4294967296)) % 4294967296, rd x8_2 0, rd x8_2 1, rd x8_2 2, ((rd x8_2 3) + (((((((((rd x8_2 7) + (Go.bits .xor .u32 (Go.bits .xor .u32 t117 t118) t119)) % 4294967296) + (Go.bits .xor .u32 (Go.bits .and .u32 (rd x8_2 4) (rd x8_2 5)) (Go.bits .and .u32 (Go.bits .xor .u32 4294967295 (rd x8_2 4)) (rd x8_2 6)))) % 4294967296) + (rd t104 x9_2)) % 4294967296) + (rd t108 x9_2)) % 4294967296)) % 4294967296, rd x8_2 4, rd x8_2 5, rd x8_2 6] : List Int)) (wrap64 (x9_2 + 1))) else (none)) else (none)) else (none))))) else (none)) else (none)) else (none)) else (none)) else (none)))) = some r := H
                            have A21 := Aside0.mk A210
                            clear A210
                            replace H := Option.bind_eq_some_iff.mp H
                            obtain ⟨t118, A220, H⟩ := H
                            replace H : ((Go.Proofs.Ytakbdknmfaoppaa.P.bailiwickref03_right.f (rd x8_2 4) 25).bind fun t119 => (if 5 < (x8_2.length : Int) then (if 6 < (x8_2.length : Int) then (if 0 ≤ x9_2 then (if x9_2 < (t104.length : Int) then (if x9_2 < (t108.length : Int) then ((Go.Proofs.Ytakbdknmfaoppaa.P.bailiwickref03_right.f (rd x8_2 0) 2).bind fun t124 => ((Go.Proofs.Ytakbdknmfaoppaa.P.bailiwickref03_right.f (rd x8_2 0) 13).bind fun t125 => ((Go.Proofs.Ytakbdknmfaoppaa.P.bailiwickref03_right.f (rd x8_2 0) 22).bind fun t126 => (if 1 < (x8_2.length : Int) then (if 2 < (x8_2.length : Int) then (if 3 < (x8_2.length : Int) then (bailiwickref03_Sum.l1 k2 x3_1 t104 t107 x6_1 t108 (([((((((((((rd x8_2 7) + (Go.bits .xor .u32 (Go.bits .xor .u32 t117 t118) t119)) % 4294967296) + (Go.bits .xor .u32 (Go.bits .and .u32 (rd x8_2 4) (rd x8_2 5)) (Go.bits .and .u32 (Go.bits .xor .u32 4294967295 (rd x8_2 4)) (rd x8_2 6)))) % 4294967296) + (rd t104 x9_2)) % 4294967296) + (rd t108 x9_2)) % 4294967296) + (((Go.bits .xor .u32 (Go.bits .xor .u32 t124 t125) t126) + (Go.bits .xor .u32 (Go.bits .xor .u32 (Go.bits .and .u32 (rd x8_2 0) (rd x8_2 1)) (Go.bits .and .u32 (rd x8_2 0) (rd x8_2 2))) (Go.bits .and .u32 (rd x8_2 1) (rd x8_2 2)))) % 4294967296)) % 4294967296, rd x8_2 0, rd x8_2 1, rd x8_2 2, ((rd x8_2 3) + (((((((((rd x8_2 7) + (Go.bits .xor .u32 (Go.bits .xor .u32 t117 t118) t119)) % 4294967296) + (Go.bits .xor .u32 (Go.bits .and .u32 (rd x8_2 4) (rd x8_2 5)) (Go.bits .and .u32 (Go.bits .xor .u32 4294967295 (rd x8_2 4)) (rd x8_2 6)))) % 4294967296) + (rd t104 x9_2)) % 4294967296) + (rd t108 x9_2)) % 4294967296)) % 4294967296, rd x8_2 4, rd x8_2 5, rd x8_2 6] : List Int)) (wrap64 (x9_2 + 1))) else (none)) else (none)) else (none))))) else (none)) else (none)) else (none)) else (none)) else (none))) = some r := H
                            have A22 := Aside0.mk A220
                            clear A220
                            replace H := Option.bind_eq_some_iff.mp H
                            obtain ⟨t119, A230, H⟩ := H
                            replace H : (if 5 < (x8_2.length : Int) then (if 6 < (x8_2.length : Int) then (if 0 ≤ x9_2 then (if x9_2 < (t104.length : Int) then (if x9_2 < (t108.length : Int) then ((Go.Proofs.Ytakbdknmfaoppaa.P.bailiwickref03_right.f (rd x8_2 0) 2).bind fun t124 => ((Go.Proofs.Ytakbdknmfaoppaa.P.bailiwickref03_right.f (rd x8_2 0) 13).bind fun t125 => ((Go.Proofs.Ytakbdknmfaoppaa.P.bailiwickref03_right.f (rd x8_2 0) 22).bind fun t126 => (if 1 < (x8_2.length : Int) then (if 2 < (x8_2.length : Int) then (if 3 < (x8_2.length : Int) then (bailiwickref03_Sum.l1 k2 x3_1 t104 t107 x6_1 t108 (([((((((((((rd x8_2 7) + (Go.bits .xor .u32 (Go.bits .xor .u32 t117 t118) t119)) % 4294967296) + (Go.bits .xor .u32 (Go.bits .and .u32 (rd x8_2 4) (rd x8_2 5)) (Go.bits .and .u32 (Go.bits .xor .u32 4294967295 (rd x8_2 4)) (rd x8_2 6)))) % 4294967296) + (rd t104 x9_2)) % 4294967296) + (rd t108 x9_2)) % 4294967296) + (((Go.bits .xor .u32 (Go.bits .xor .u32 t124 t125) t126) + (Go.bits .xor .u32 (Go.bits .xor .u32 (Go.bits .and .u32 (rd x8_2 0) (rd x8_2 1)) (Go.bits .and .u32 (rd x8_2 0) (rd x8_2 2))) (Go.bits .and .u32 (rd x8_2 1) (rd x8_2 2)))) % 4294967296)) % 4294967296, rd x8_2 0, rd x8_2 1, rd x8_2 2, ((rd x8_2 3) + (((((((((rd x8_2 7) + (Go.bits .xor .u32 (Go.bits .xor .u32 t117 t118) t119)) % 4294967296) + (Go.bits .xor .u32 (Go.bits .and .u32 (rd x8_2 4) (rd x8_2 5)) (Go.bits .and .u32 (Go.bits .xor .u32 4294967295 (rd x8_2 4)) (rd x8_2 6)))) % 4294967296) + (rd t104 x9_2)) % 4294967296) + (rd t108 x9_2)) % 4294967296)) % 4294967296, rd x8_2 4, rd x8_2 5, rd x8_2 6] : List Int)) (wrap64 (x9_2 + 1))) else (none)) else (none)) else (none))))) else (none)) else (none)) else (none)) else (none)) else (none)) = some r := H
                            have A23 := Aside0.mk A230
                            clear A230
                            by_cases c24 : 5 < (x8_2.length : Int)
                            · rw [if_pos c24] at H
                              have c24b0 : decide (5 < (x8_2.length : Int)) = true := decide_eq_true c24
                              have c24b1 : decide (5 < x8_2.length) = true := decide_eq_true (by omega)
                              clear c24
                              by_cases c25 : 6 < (x8_2.length : Int)
                              · rw [if_pos c25] at H
                                have c25b0 : decide (6 < (x8_2.length : Int)) = true := decide_eq_true c25
                                have c25b1 : decide (6 < x8_2.length) = true := decide_eq_true (by omega)
                                clear c25
                                by_cases c26 : 0 ≤ x9_2
                                · rw [if_pos c26] at H
                                  have c26b0 : decide (0 ≤ x9_2) = true := decide_eq_true c26
                                  clear c26
                                  by_cases c27 : x9_2 < (t104.length : Int)
                                  · rw [if_pos c27] at H
                                    have c27b0 : decide (x9_2 < (t104.length : Int)) = true := decide_eq_true c27
                                    clear c27
                                    by_cases c28 : x9_2 < (t108.length : Int)
                                    · rw [if_pos c28] at H
                                      have c28b0 : decide (x9_2 < (t108.length : Int)) = true := decide_eq_true c28
                                      clear c28
                                      replace H := Option.bind_eq_some_iff.mp H
                                      obtain ⟨t124, A290, H⟩ := H
                                      replace H : ((Go.Proofs.Ytakbdknmfaoppaa.P.bailiwickref03_right.f (rd x8_2 0) 13).bind fun t125 => ((Go.Proofs.Ytakbdknmfaoppaa.P.bailiwickref03_right.f (rd x8_2 0) 22).bind fun t126 => (if 1 < (x8_2.length : Int) then (if 2 < (x8_2.length : Int) then (if 3 < (x8_2.length : Int) then (bailiwickref03_Sum.l1 k2 x3_1 t104 t107 x6_1 t108 (([((((((((((rd x8_2 7) + (Go.bits .xor .u32 (Go.bits .xor .u32 t117 t118) t119)) % 4294967296) + (Go.bits .xor .u32 (Go.bits .and .u32 (rd x8_2 4) (rd x8_2 5)) (Go.bits .and .u32 (Go.bits .xor .u32 4294967295 (rd x8_2 4)) (rd x8_2 6)))) % 4294967296) + (rd t104 x9_2)) % 4294967296) + (rd t108 x9_2)) % 4294967296) + (((Go.bits .xor .u32 (Go.bits .xor .u32 t124 t125) t126) + (Go.bits .xor .u32 (Go.bits .xor .u32 (Go.bits .and .u32 (rd x8_2 0) (rd x8_2 1)) (Go.bits .and .u32 (rd x8_2 0) (rd x8_2 2))) (Go.bits .and .u32 (rd x8_2 1) (rd x8_2 2)))) % 4294967296)) % 4294967296, rd x8_2 0, rd x8_2 1, rd x8_2 2, ((rd x8_2 3) + (((((((((rd x8_2 7) + (Go.bits .xor .u32 (Go.bits .xor .u32 t117 t118) t119)) % 4294967296) + (Go.bits .xor .u32 (Go.bits .and .u32 (rd x8_2 4) (rd x8_2 5)) (Go.bits .and .u32 (Go.bits .xor .u32 4294967295 (rd x8_2 4)) (rd x8_2 6)))) % 4294967296) + (rd t104 x9_2)) % 4294967296) + (rd t108 x9_2)) % 4294967296)) % 4294967296, rd x8_2 4, rd x8_2 5, rd x8_2 6] : List Int)) (wrap64 (x9_2 + 1))) else (none)) else (none)) else (none)))) = some r := H
                                      have A29 := Aside0.mk A290
                                      clear A290
                                      replace H := Option.bind_eq_some_iff.mp H
                                      obtain ⟨t125, A300, H⟩ := H
                                      replace H : ((Go.Proofs.Ytakbdknmfaoppaa.P.bailiwickref03_right.f (rd x8_2 0) 22).bind fun t126 => (if 1 < (x8_2.length : Int) then (if 2 < (x8_2.length : Int) then (if 3 < (x8_2.length : Int) then (bailiwickref03_Sum.l1 k2 x3_1 t104 t107 x6_1 t108 (([((((((((((rd x8_2 7) + (Go.bits .xor .u32 (Go.bits .xor .u32 t117 t118) t119)) % 4294967296) + (Go.bits .xor .u32 (Go.bits .and .u32 (rd x8_2 4) (rd x8_2 5)) (Go.bits .and .u32 (Go.bits .xor .u32 4294967295 (rd x8_2 4)) (rd x8_2 6)))) % 4294967296) + (rd t104 x9_2)) % 4294967296) + (rd t108 x9_2)) % 4294967296) + (((Go.bits .xor .u32 (Go.bits .xor .u32 t124 t125) t126) + (Go.bits .xor .u32 (Go.bits .xor .u32 (Go.bits .and .u32 (rd x8_2 0) (rd x8_2 1)) (Go.bits .and .u32 (rd x8_2 0) (rd x8_2 2))) (Go.bits .and .u32 (rd x8_2 1) (rd x8_2 2)))) % 4294967296)) % 4294967296, rd x8_2 0, rd x8_2 1, rd x8_2 2, ((rd x8_2 3) + (((((((((rd x8_2 7) + (Go.bits .xor .u32 (Go.bits .xor .u32 t117 t118) t119)) % 4294967296) + (Go.bits .xor .u32 (Go.bits .and .u32 (rd x8_2 4) (rd x8_2 5)) (Go.bits .and .u32 (Go.bits .xor .u32 4294967295 (rd x8_2 4)) (rd x8_2 6)))) % 4294967296) + (rd t104 x9_2)) % 4294967296) + (rd t108 x9_2)) % 4294967296)) % 4294967296, rd x8_2 4, rd x8_2 5, rd x8_2 6] : List Int)) (wrap64 (x9_2 + 1))) else (none)) else (none)) else (none))) = some r := H
                                      have A30 := Aside0.mk A300
                                      clear A300
                                      replace H := Option.bind_eq_some_iff.mp H
                                      obtain ⟨t126, A310, H⟩ := H
                                      replace H : (if 1 < (x8_2.length : Int) then (if 2 < (x8_2.length : Int) then (if 3 < (x8_2.length : Int) then (bailiwickref03_Sum.l1 k2 x3_1 t104 t107 x6_1 t108 (([((((((((((rd x8_2 7) + (Go.bits .xor .u32 (Go.bits .xor .u32 t117 t118) t119)) % 4294967296) + (Go.bits .xor .u32 (Go.bits .and .u32 (rd x8_2 4) (rd x8_2 5)) (Go.bits .and .u32 (Go.bits .xor .u32 4294967295 (rd x8_2 4)) (rd x8_2 6)))) % 4294967296) + (rd t104 x9_2)) % 4294967296) + (rd t108 x9_2)) % 4294967296) + (((Go.bits .xor .u32 (Go.bits .xor .u32 t124 t125) t126) + (Go.bits .xor .u32 (Go.bits .xor .u32 (Go.bits .and .u32 (rd x8_2 0) (rd x8_2 1)) (Go.bits .and .u32 (rd x8_2 0) (rd x8_2 2))) (Go.bits .and .u32 (rd x8_2 1) (rd x8_2 2)))) % 4294967296)) % 4294967296, rd x8_2 0, rd x8_2 1, rd x8_2 2, ((rd x8_2 3) + (((((((((rd x8_2 7) + (Go.bits .xor .u32 (Go.bits .xor .u32 t117 t118) t119)) % 4294967296) + (Go.bits .xor .u32 (Go.bits .and .u32 (rd x8_2 4) (rd x8_2 5)) (Go.bits .and .u32 (Go.bits .xor .u32 4294967295 (rd x8_2 4)) (rd x8_2 6)))) % 4294967296) + (rd t104 x9_2)) % 4294967296) + (rd t108 x9_2)) % 4294967296)) % 4294967296, rd x8_2 4, rd x8_2 5, rd x8_2 6] : List Int)) (wrap64 (x9_2 + 1))) else (none)) else (none)) else (none)) = some r := H
                                      have A31 := Aside0.mk A310
                                      clear A310
                                      by_cases c32 : 1 < (x8_2.length : Int)
                                      · rw [if_pos c32] at H
                                        have c32b0 : decide (1 < (x8_2.length : Int)) = true := decide_eq_true c32
                                        have c32b1 : decide (1 < x8_2.length) = true := decide_eq_true (by omega)
                                        clear c32
                                        by_cases c33 : 2 < (x8_2.length : Int)
                                        · rw [if_pos c33] at H
                                          have c33b0 : decide (2 < (x8_2.length : Int)) = true := decide_eq_true c33
                                          have c33b1 : decide (2 < x8_2.length) = true := decide_eq_true (by omega)
                                          clear c33
                                          by_cases c34 : 3 < (x8_2.length : Int)
                                          · rw [if_pos c34] at H
                                            have c34b0 : decide (3 < (x8_2.length : Int)) = true := decide_eq_true c34
                                            have c34b1 : decide (3 < x8_2.length) = true := decide_eq_true (by omega)
                                            clear c34
                                            obtain ⟨y136, hy136⟩ : ∃ y_ : List Int, y_ = (([((((((((((rd x8_2 7) + (Go.bits .xor .u32 (Go.bits .xor .u32 t117 t118) t119)) % 4294967296) + (Go.bits .xor .u32 (Go.bits .and .u32 (rd x8_2 4) (rd x8_2 5)) (Go.bits .and .u32 (Go.bits .xor .u32 4294967295 (rd x8_2 4)) (rd x8_2 6)))) % 4294967296) + (rd t104 x9_2)) % 4294967296) + (rd t108 x9_2)) % 4294967296) + (((Go.bits .xor .u32 (Go.bits .xor .u32 t124 t125) t126) + (Go.bits .xor .u32 (Go.bits .xor .u32 (Go.bits .and .u32 (rd x8_2 0) (rd x8_2 1)) (Go.bits .and .u32 (rd x8_2 0) (rd x8_2 2))) (Go.bits .and .u32 (rd x8_2 1) (rd x8_2 2)))) % 4294967296)) % 4294967296, rd x8_2 0, rd x8_2 1, rd x8_2 2, ((rd x8_2 3) + (((((((((rd x8_2 7) + (Go.bits .xor .u32 (Go.bits .xor .u32 t117 t118) t119)) % 4294967296) + (Go.bits .xor .u32 (Go.bits .and .u32 (rd x8_2 4) (rd x8_2 5)) (Go.bits .and .u32 (Go.bits .xor .u32 4294967295 (rd x8_2 4)) (rd x8_2 6)))) % 4294967296) + (rd t104 x9_2)) % 4294967296) + (rd t108 x9_2)) % 4294967296)) % 4294967296, rd x8_2 4, rd x8_2 5, rd x8_2 6] : List Int)) := ⟨_, rfl⟩
                                            replace H : (bailiwickref03_Sum.l1 k2 x3_1 t104 t107 x6_1 t108 y136 (wrap64 (x9_2 + 1))) = some r := by first | (rw [hy136]; with_reducible exact H) | (have H2_ := (Option.bind_some _ _).symm.trans H; rw [hy136]; with_reducible exact H2_) | (have H2_ := (Option.bind_some _ _).symm.trans H; with_reducible exact H2_) | with_reducible exact H | (rw [hy136]; exact H) | exact H
                                            have Ny136 := Aside0.mk hy136
                                            clear hy136
                                            have H' := Aside0.mk H
                                            clear H
                                            obtain ⟨Ao35, co35, eo35⟩ := Kd.R_slice HO_8.out
                                            subst eo35
                                            have p114 : 0 ≤ (0 : Int) := (by omega)
                                            have q114 : 0 < (x8_2.length : Int) := of_decide_eq_true (by first | (with_reducible assumption) | assumption)
                                            obtain ⟨ad114, e114, hx114_0⟩ := Kd.at_int (Kd.R_reads' HO_8.out).2.2 0 p114 q114
                                            cases e114
                                            have qi114 : (0 < x8_2.length) = True := eq_true (by omega)
                                            (try rw [show ((0 : Int)).toNat = 0 from rfl] at hx114_0)
                                            (try rw [Addr.add_zero'] at hx114_0)
                                            replace p114 := eq_true p114
                                            replace q114 := eq_true q114
                                            have p115 : 0 ≤ (4 : Int) := (by omega)
                                            have q115 : 4 < (x8_2.length : Int) := of_decide_eq_true (by first | (with_reducible assumption) | assumption)
                                            obtain ⟨ad115, e115, hx115_0⟩ := Kd.at_int (Kd.R_reads' HO_8.out).2.2 4 p115 q115
                                            obtain rfl : ad114 = ad115 := (by injection e115)
                                            (try simp only [show (4 : Int).toNat = 4 from rfl, Nat.reduceMul, Nat.reduceEqDiff, Go.Addr.add, ↓reduceIte] at hx115_0)
                                            have qi115 : (4 < x8_2.length) = True := eq_true (by omega)
                                            (try rw [show ((4 : Int)).toNat = 4 from rfl] at hx115_0)
                                            replace p115 := eq_true p115
                                            replace q115 := eq_true q115
                                            try go_wp2
                                            have n0_ := Aside0.mk (Kd.R_drew HO_3.out)
                                            have n1_ := Aside0.mk (Kd.R_drew HO_4.out)
                                            have n2_ := Aside0.mk (Kd.R_drew HO_7.out)
                                            have n3_ := Aside0.mk (Kd.R_drew HO_8.out)
                                            have n4_ := Aside0.mk (below_drew1 HB.out)
                                            clear HO_3
                                            clear HO_4
                                            clear HO_7
                                            clear HO_8
                                            clear HB
                                            have HO_3 := n0_
                                            have HO_4 := n1_
                                            have HO_7 := n2_
                                            have HO_8 := n3_
                                            have HB := n4_
                                            clear n0_ n1_ n2_ n3_ n4_
                                            have p116 : 0 ≤ (7 : Int) := (by omega)
                                            have q116 : 7 < (x8_2.length : Int) := of_decide_eq_true (by first | (with_reducible assumption) | assumption)
                                            obtain ⟨ad116, e116, hx116_0⟩ := Kd.at_int (Kd.R_reads' HO_8.out).2.2 7 p116 q116
                                            obtain rfl : ad114 = ad116 := (by injection e116)
                                            (try simp only [show (7 : Int).toNat = 7 from rfl, Nat.reduceMul, Nat.reduceEqDiff, Go.Addr.add, ↓reduceIte] at hx116_0)
                                            have qi116 : (7 < x8_2.length) = True := eq_true (by omega)
                                            (try rw [show ((7 : Int)).toNat = 7 from rfl] at hx116_0)
                                            replace p116 := eq_true p116
                                            replace q116 := eq_true q116
                                            have p120 : 0 ≤ (5 : Int) := (by omega)
                                            have q120 : 5 < (x8_2.length : Int) := of_decide_eq_true (by first | (with_reducible assumption) | assumption)
                                            obtain ⟨ad120, e120, hx120_0⟩ := Kd.at_int (Kd.R_reads' HO_8.out).2.2 5 p120 q120
                                            obtain rfl : ad114 = ad120 := (by injection e120)
                                            (try simp only [show (5 : Int).toNat = 5 from rfl, Nat.reduceMul, Nat.reduceEqDiff, Go.Addr.add, ↓reduceIte] at hx120_0)
                                            have qi120 : (5 < x8_2.length) = True := eq_true (by omega)
                                            (try rw [show ((5 : Int)).toNat = 5 from rfl] at hx120_0)
                                            replace p120 := eq_true p120
                                            replace q120 := eq_true q120
                                            have p121 : 0 ≤ (6 : Int) := (by omega)
                                            have q121 : 6 < (x8_2.length : Int) := of_decide_eq_true (by first | (with_reducible assumption) | assumption)
                                            obtain ⟨ad121, e121, hx121_0⟩ := Kd.at_int (Kd.R_reads' HO_8.out).2.2 6 p121 q121
                                            obtain rfl : ad114 = ad121 := (by injection e121)
                                            (try simp only [show (6 : Int).toNat = 6 from rfl, Nat.reduceMul, Nat.reduceEqDiff, Go.Addr.add, ↓reduceIte] at hx121_0)
                                            have qi121 : (6 < x8_2.length) = True := eq_true (by omega)
                                            (try rw [show ((6 : Int)).toNat = 6 from rfl] at hx121_0)
                                            replace p121 := eq_true p121
                                            replace q121 := eq_true q121
                                            obtain ⟨Ao37, co37, eo37⟩ := Kd.R_slice HO_4.out
                                            (first | subst eo37 | (injection eo37 with f1_ f2_ f3_; have f4_ := f1_.symm; have f5_ := f3_.symm; clear f1_ f2_ f3_; subst f4_; subst f5_))
                                            have p122 : 0 ≤ (x9_2 : Int) := of_decide_eq_true (by first | (with_reducible assumption) | assumption)
                                            have q122 : x9_2 < (t104.length : Int) := of_decide_eq_true (by first | (with_reducible assumption) | assumption)
                                            obtain ⟨ad122, e122, hx122_0⟩ := Kd.at_int (Kd.R_reads' HO_4.out).2.2 x9_2 p122 q122
                                            cases e122
                                            replace p122 := eq_true p122
                                            replace q122 := eq_true q122
                                            obtain ⟨Ao38, co38, eo38⟩ := Kd.R_slice HO_7.out
                                            (first | subst eo38 | (injection eo38 with f1_ f2_ f3_; have f4_ := f1_.symm; have f5_ := f3_.symm; clear f1_ f2_ f3_; subst f4_; subst f5_))
                                            have p123 : 0 ≤ (x9_2 : Int) := of_decide_eq_true (by first | (with_reducible assumption) | assumption)
                                            have q123 : x9_2 < (t108.length : Int) := of_decide_eq_true (by first | (with_reducible assumption) | assumption)
                                            obtain ⟨ad123, e123, hx123_0⟩ := Kd.at_int (Kd.R_reads' HO_7.out).2.2 x9_2 p123 q123
                                            cases e123
                                            replace p123 := eq_true p123
                                            replace q123 := eq_true q123
                                            refine start_ (n := 36) (S := fun w' => w'.cell? ⟨ad114.block, ad114.off + 7, none⟩ = some (.int .u32 (rd x8_2 7)) ∧ w'.cell? ⟨ad114.block, ad114.off + 5, none⟩ = some (.int .u32 (rd x8_2 5)) ∧ w'.cell? ⟨ad114.block, ad114.off + 6, none⟩ = some (.int .u32 (rd x8_2 6)) ∧ w'.cell? (ad122.add (x9_2).toNat) = some (.int .u32 (rd t104 x9_2)) ∧ w'.cell? (ad123.add (x9_2).toNat) = some (.int .u32 (rd t108 x9_2))) (ds := []) #[false, false, false, false, false, false, false, false, false, false, false, false, false, false, false, false, false, false, false, false, false, false, false, false, false, false, false, false, false, false, false, false, false, false, false, false] (by kernel_rfl) rfl rfl ⟨hx116_0, hx120_0, hx121_0, hx122_0, hx123_0⟩ (fun hHeld => ?_); refine with_tabW bailiwickref03_Sum.tab14 bailiwickref03_Sum.bits14 (fun HT_ HW_ => ?_)
                                            generalize wr.drew = w36 at HO_3 HO_4 HO_7 HO_8 HB hx116_0 hx120_0 hx121_0 hx122_0 hx123_0 hHeld ⊢
                                            refine pure_ (i := 0) (N := some 45) (v := ?_) (a' := ?_) #[true, false, false, false, false, false, false, false, false, false, false, false, false, false, false, false, false, false, false, false, false, false, false, false, false, false, false, false, false, false, false, false, false, false, false, false] rfl rfl (any_of HT_.out (by kernel_rfl)) (fun _ _ _ h => h) (Or.inl ⟨by rfl, ?_⟩) ?_ ?_
                                            rotate_left
                                            · intro w'
                                              go_simp
                                              with_reducible rfl
                                            rotate_left
                                            · simp only [Act.put, List.setIfInBounds_toArray, List.set_cons_zero, List.set_cons_succ, i64_w, i32_w]
                                              rfl
                                            refine pure_ (i := 1) (N := some 46) (v := ?_) (a' := ?_) #[true, true, false, false, false, false, false, false, false, false, false, false, false, false, false, false, false, false, false, false, false, false, false, false, false, false, false, false, false, false, false, false, false, false, false, false] rfl rfl (any_of HT_.out (by kernel_rfl)) (fun _ _ _ h => h) (Or.inl ⟨by rfl, ?_⟩) ?_ ?_
                                            rotate_left
                                            · intro w'
                                              go_simp
                                              with_reducible rfl
                                            rotate_left
                                            · simp only [Act.put, List.setIfInBounds_toArray, List.set_cons_zero, List.set_cons_succ, i64_w, i32_w]
                                              rfl
                                            refine pure_ (i := 3) (N := some 48) (v := ?_) (a' := ?_) #[true, true, false, true, false, false, false, false, false, false, false, false, false, false, false, false, false, false, false, false, false, false, false, false, false, false, false, false, false, false, false, false, false, false, false, false] rfl rfl (any_of HT_.out (by kernel_rfl)) (fun _ _ _ h => h) (Or.inl ⟨by rfl, ?_⟩) ?_ ?_
                                            rotate_left
                                            · intro w'
                                              go_simp
                                              with_reducible rfl
                                            rotate_left
                                            · simp only [Act.put, List.setIfInBounds_toArray, List.set_cons_zero, List.set_cons_succ, i64_w, i32_w]
                                              rfl
                                            refine pure_ (i := 5) (N := some 50) (v := ?_) (a' := ?_) #[true, true, false, true, false, true, false, false, false, false, false, false, false, false, false, false, false, false, false, false, false, false, false, false, false, false, false, false, false, false, false, false, false, false, false, false] rfl rfl (any_of HT_.out (by kernel_rfl)) (fun _ _ _ h => h) (Or.inl ⟨by rfl, ?_⟩) ?_ ?_
                                            rotate_left
                                            · intro w'
                                              go_simp
                                              with_reducible rfl
                                            rotate_left
                                            · simp only [Act.put, List.setIfInBounds_toArray, List.set_cons_zero, List.set_cons_succ, i64_w, i32_w]
                                              rfl
                                            refine pure_ (i := 8) (N := some 53) (v := ?_) (a' := ?_) #[true, true, false, true, false, true, false, false, true, false, false, false, false, false, false, false, false, false, false, false, false, false, false, false, false, false, false, false, false, false, false, false, false, false, false, false] rfl rfl (any_of HT_.out (by kernel_rfl)) (fun _ _ _ h => h) (Or.inl ⟨by rfl, ?_⟩) ?_ ?_
                                            rotate_left
                                            · intro w'
                                              go_simp
                                              with_reducible rfl
                                            rotate_left
                                            · simp only [Act.put, List.setIfInBounds_toArray, List.set_cons_zero, List.set_cons_succ, i64_w, i32_w]
                                              rfl
                                            refine pure_ (i := 12) (N := some 57) (v := ?_) (a' := ?_) #[true, true, false, true, false, true, false, false, true, false, false, false, true, false, false, false, false, false, false, false, false, false, false, false, false, false, false, false, false, false, false, false, false, false, false, false] rfl rfl (any_of HT_.out (by kernel_rfl)) (fun _ _ _ h => h) (Or.inl ⟨by rfl, ?_⟩) ?_ ?_
                                            rotate_left
                                            · intro w'
                                              go_simp
                                              with_reducible rfl
                                            rotate_left
                                            · simp only [Act.put, List.setIfInBounds_toArray, List.set_cons_zero, List.set_cons_succ, i64_w, i32_w]
                                              rfl
                                            refine pure_ (i := 13) (N := some 58) (v := ?_) (a' := ?_) #[true, true, false, true, false, true, false, false, true, false, false, false, true, true, false, false, false, false, false, false, false, false, false, false, false, false, false, false, false, false, false, false, false, false, false, false] rfl rfl (any_of HT_.out (by kernel_rfl)) (fun _ _ _ h => h) (Or.inl ⟨by rfl, ?_⟩) ?_ ?_
                                            rotate_left
                                            · intro w'
                                              go_simp
                                              with_reducible rfl
                                            rotate_left
                                            · simp only [Act.put, List.setIfInBounds_toArray, List.set_cons_zero, List.set_cons_succ, i64_w, i32_w]
                                              rfl
                                            refine pure_ (i := 14) (N := some 59) (v := ?_) (a' := ?_) #[true, true, false, true, false, true, false, false, true, false, false, false, true, true, true, false, false, false, false, false, false, false, false, false, false, false, false, false, false, false, false, false, false, false, false, false] rfl rfl (any_of HT_.out (by kernel_rfl)) (fun _ _ _ h => h) (Or.inl ⟨by rfl, ?_⟩) ?_ ?_
                                            rotate_left
                                            · intro w'
                                              go_simp
                                              with_reducible rfl
                                            rotate_left
                                            · simp only [Act.put, List.setIfInBounds_toArray, List.set_cons_zero, List.set_cons_succ, i64_w, i32_w]
                                              rfl
                                            refine pure_ (i := 17) (N := some 62) (v := ?_) (a' := ?_) #[true, true, false, true, false, true, false, false, true, false, false, false, true, true, true, false, false, true, false, false, false, false, false, false, false, false, false, false, false, false, false, false, false, false, false, false] rfl rfl (any_of HT_.out (by kernel_rfl)) (fun _ _ _ h => h) (Or.inl ⟨by rfl, ?_⟩) ?_ ?_
                                            rotate_left
                                            · intro w'
                                              go_simp
                                              with_reducible rfl
                                            rotate_left
                                            · simp only [Act.put, List.setIfInBounds_toArray, List.set_cons_zero, List.set_cons_succ, i64_w, i32_w]
                                              rfl
                                            refine pure_ (i := 18) (N := some 63) (v := ?_) (a' := ?_) #[true, true, false, true, false, true, false, false, true, false, false, false, true, true, true, false, false, true, true, false, false, false, false, false, false, false, false, false, false, false, false, false, false, false, false, false] rfl rfl (any_of HT_.out (by kernel_rfl)) (fun _ _ _ h => h) (Or.inl ⟨by rfl, ?_⟩) ?_ ?_
                                            rotate_left
                                            · intro w'
                                              go_simp
                                              with_reducible rfl
                                            rotate_left
                                            · simp only [Act.put, List.setIfInBounds_toArray, List.set_cons_zero, List.set_cons_succ, i64_w, i32_w]
                                              rfl
                                            refine pure_ (i := 19) (N := some 64) (v := ?_) (a' := ?_) #[true, true, false, true, false, true, false, false, true, false, false, false, true, true, true, false, false, true, true, true, false, false, false, false, false, false, false, false, false, false, false, false, false, false, false, false] rfl rfl (any_of HT_.out (by kernel_rfl)) (fun _ _ _ h => h) (Or.inl ⟨by rfl, ?_⟩) ?_ ?_
                                            rotate_left
                                            · intro w'
                                              go_simp
                                              with_reducible rfl
                                            rotate_left
                                            · simp only [Act.put, List.setIfInBounds_toArray, List.set_cons_zero, List.set_cons_succ, i64_w, i32_w]
                                              rfl
                                            refine pure_ (i := 20) (N := some 65) (v := ?_) (a' := ?_) #[true, true, false, true, false, true, false, false, true, false, false, false, true, true, true, false, false, true, true, true, true, false, false, false, false, false, false, false, false, false, false, false, false, false, false, false] rfl rfl (any_of HT_.out (by kernel_rfl)) (fun _ _ _ h => h) (Or.inl ⟨by rfl, ?_⟩) ?_ ?_
                                            rotate_left
                                            · intro w'
                                              go_simp
                                              with_reducible rfl
                                            rotate_left
                                            · simp only [Act.put, List.setIfInBounds_toArray, List.set_cons_zero, List.set_cons_succ, i64_w, i32_w]
                                              rfl
                                            refine pure_ (i := 25) (N := some 70) (v := ?_) (a' := ?_) #[true, true, false, true, false, true, false, false, true, false, false, false, true, true, true, false, false, true, true, true, true, false, false, false, false, true, false, false, false, false, false, false, false, false, false, false] rfl rfl (any_of HT_.out (by kernel_rfl)) (fun _ _ _ h => h) (Or.inl ⟨by rfl, ?_⟩) ?_ ?_
                                            rotate_left
                                            · intro w'
                                              go_simp
                                              with_reducible rfl
                                            rotate_left
                                            · simp only [Act.put, List.setIfInBounds_toArray, List.set_cons_zero, List.set_cons_succ, i64_w, i32_w]
                                              rfl
                                            refine pure_ (i := 26) (N := some 71) (v := ?_) (a' := ?_) #[true, true, false, true, false, true, false, false, true, false, false, false, true, true, true, false, false, true, true, true, true, false, false, false, false, true, true, false, false, false, false, false, false, false, false, false] rfl rfl (any_of HT_.out (by kernel_rfl)) (fun _ _ _ h => h) (Or.inl ⟨by rfl, ?_⟩) ?_ ?_
                                            rotate_left
                                            · intro w'
                                              go_simp
                                              with_reducible rfl
                                            rotate_left
                                            · simp only [Act.put, List.setIfInBounds_toArray, List.set_cons_zero, List.set_cons_succ, i64_w, i32_w]
                                              rfl
                                            refine pure_ (i := 27) (N := some 72) (v := ?_) (a' := ?_) #[true, true, false, true, false, true, false, false, true, false, false, false, true, true, true, false, false, true, true, true, true, false, false, false, false, true, true, true, false, false, false, false, false, false, false, false] rfl rfl (any_of HT_.out (by kernel_rfl)) (fun _ _ _ h => h) (Or.inl ⟨by rfl, ?_⟩) ?_ ?_
                                            rotate_left
                                            · intro w'
                                              go_simp
                                              with_reducible rfl
                                            rotate_left
                                            · simp only [Act.put, List.setIfInBounds_toArray, List.set_cons_zero, List.set_cons_succ, i64_w, i32_w]
                                              rfl
                                            refine pure_ (i := 30) (N := some 75) (v := ?_) (a' := ?_) #[true, true, false, true, false, true, false, false, true, false, false, false, true, true, true, false, false, true, true, true, true, false, false, false, false, true, true, true, false, false, true, false, false, false, false, false] rfl rfl (any_of HT_.out (by kernel_rfl)) (fun _ _ _ h => h) (Or.inl ⟨by rfl, ?_⟩) ?_ ?_
                                            rotate_left
                                            · intro w'
                                              go_simp
                                              with_reducible rfl
                                            rotate_left
                                            · simp only [Act.put, List.setIfInBounds_toArray, List.set_cons_zero, List.set_cons_succ, i64_w, i32_w]
                                              rfl
                                            refine pure_ (i := 31) (N := some 76) (v := ?_) (a' := ?_) #[true, true, false, true, false, true, false, false, true, false, false, false, true, true, true, false, false, true, true, true, true, false, false, false, false, true, true, true, false, false, true, true, false, false, false, false] rfl rfl (any_of HT_.out (by kernel_rfl)) (fun _ _ _ h => h) (Or.inl ⟨by rfl, ?_⟩) ?_ ?_
                                            rotate_left
                                            · intro w'
                                              go_simp
                                              with_reducible rfl
                                            rotate_left
                                            · simp only [Act.put, List.setIfInBounds_toArray, List.set_cons_zero, List.set_cons_succ, i64_w, i32_w]
                                              rfl
                                            refine pure_ (i := 32) (N := some 77) (v := ?_) (a' := ?_) #[true, true, false, true, false, true, false, false, true, false, false, false, true, true, true, false, false, true, true, true, true, false, false, false, false, true, true, true, false, false, true, true, true, false, false, false] rfl rfl (any_of HT_.out (by kernel_rfl)) (fun _ _ _ h => h) (Or.inl ⟨by rfl, ?_⟩) ?_ ?_
                                            rotate_left
                                            · intro w'
                                              go_simp
                                              with_reducible rfl
                                            rotate_left
                                            · simp only [Act.put, List.setIfInBounds_toArray, List.set_cons_zero, List.set_cons_succ, i64_w, i32_w]
                                              rfl
                                            refine take_ (i := 2) (N := some 47) (v := ?_) (a' := ?_) #[true, true, true, true, false, true, false, false, true, false, false, false, true, true, true, false, false, true, true, true, true, false, false, false, false, true, true, true, false, false, true, true, true, false, false, false] rfl rfl (take_ofW HT_.out HW_.out (by kernel_rfl)) (fun _ _ _ h => h) (Or.inl ⟨by rfl, ?_⟩) hHeld ?_ ?_
                                            rotate_left
                                            · rintro w' ⟨s0, s1, s2, s3, s4⟩
                                              go_simp
                                              with_reducible rfl
                                            rotate_left
                                            · simp only [Act.put, List.setIfInBounds_toArray, List.set_cons_zero, List.set_cons_succ, i64_w, i32_w]
                                              rfl
                                            refine take_ (i := 15) (N := some 60) (v := ?_) (a' := ?_) #[true, true, true, true, false, true, false, false, true, false, false, false, true, true, true, true, false, true, true, true, true, false, false, false, false, true, true, true, false, false, true, true, true, false, false, false] rfl rfl (take_ofW HT_.out HW_.out (by kernel_rfl)) (fun _ _ _ h => h) (Or.inl ⟨by rfl, ?_⟩) hHeld ?_ ?_
                                            rotate_left
                                            · rintro w' ⟨s0, s1, s2, s3, s4⟩
                                              go_simp
                                              with_reducible rfl
                                            rotate_left
                                            · simp only [Act.put, List.setIfInBounds_toArray, List.set_cons_zero, List.set_cons_succ, i64_w, i32_w]
                                              rfl
                                            refine pure_ (i := 16) (N := some 61) (v := ?_) (a' := ?_) #[true, true, true, true, false, true, false, false, true, false, false, false, true, true, true, true, true, true, true, true, true, false, false, false, false, true, true, true, false, false, true, true, true, false, false, false] rfl rfl (any_of HT_.out (by kernel_rfl)) (fun _ _ _ h => h) (Or.inl ⟨by rfl, ?_⟩) ?_ ?_
                                            rotate_left
                                            · intro w'
                                              go_simp
                                              with_reducible rfl
                                            rotate_left
                                            · simp only [Act.put, List.setIfInBounds_toArray, List.set_cons_zero, List.set_cons_succ, i64_w, i32_w]
                                              rfl
                                            refine take_ (i := 21) (N := some 66) (v := ?_) (a' := ?_) #[true, true, true, true, false, true, false, false, true, false, false, false, true, true, true, true, true, true, true, true, true, true, false, false, false, true, true, true, false, false, true, true, true, false, false, false] rfl rfl (take_ofW HT_.out HW_.out (by kernel_rfl)) (fun _ _ _ h => h) (Or.inl ⟨by rfl, ?_⟩) hHeld ?_ ?_
                                            rotate_left
                                            · rintro w' ⟨s0, s1, s2, s3, s4⟩
                                              go_simp
                                              with_reducible rfl
                                            rotate_left
                                            · simp only [Act.put, List.setIfInBounds_toArray, List.set_cons_zero, List.set_cons_succ, i64_w, i32_w]
                                              rfl
                                            refine pure_ (i := 22) (N := some 67) (v := ?_) (a' := ?_) #[true, true, true, true, false, true, false, false, true, false, false, false, true, true, true, true, true, true, true, true, true, true, true, false, false, true, true, true, false, false, true, true, true, false, false, false] rfl rfl (any_of HT_.out (by kernel_rfl)) (fun _ _ _ h => h) (Or.inl ⟨by rfl, ?_⟩) ?_ ?_
                                            rotate_left
                                            · intro w'
                                              go_simp
                                              with_reducible rfl
                                            rotate_left
                                            · simp only [Act.put, List.setIfInBounds_toArray, List.set_cons_zero, List.set_cons_succ, i64_w, i32_w]
                                              rfl
                                            refine pure_ (i := 23) (N := some 68) (v := ?_) (a' := ?_) #[true, true, true, true, false, true, false, false, true, false, false, false, true, true, true, true, true, true, true, true, true, true, true, true, false, true, true, true, false, false, true, true, true, false, false, false] rfl rfl (any_of HT_.out (by kernel_rfl)) (fun _ _ _ h => h) (Or.inl ⟨by rfl, ?_⟩) ?_ ?_
                                            rotate_left
                                            · intro w'
                                              go_simp
                                              with_reducible rfl
                                            rotate_left
                                            · simp only [Act.put, List.setIfInBounds_toArray, List.set_cons_zero, List.set_cons_succ, i64_w, i32_w]
                                              rfl
                                            refine take_ (i := 28) (N := some 73) (v := ?_) (a' := ?_) #[true, true, true, true, false, true, false, false, true, false, false, false, true, true, true, true, true, true, true, true, true, true, true, true, false, true, true, true, true, false, true, true, true, false, false, false] rfl rfl (take_ofW HT_.out HW_.out (by kernel_rfl)) (fun _ _ _ h => h) (Or.inl ⟨by rfl, ?_⟩) hHeld ?_ ?_
                                            rotate_left
                                            · rintro w' ⟨s0, s1, s2, s3, s4⟩
                                              go_simp
                                              with_reducible rfl
                                            rotate_left
                                            · simp only [Act.put, List.setIfInBounds_toArray, List.set_cons_zero, List.set_cons_succ, i64_w, i32_w]
                                              rfl
                                            refine take_ (i := 33) (N := some 78) (v := ?_) (a' := ?_) #[true, true, true, true, false, true, false, false, true, false, false, false, true, true, true, true, true, true, true, true, true, true, true, true, false, true, true, true, true, false, true, true, true, true, false, false] rfl rfl (take_ofW HT_.out HW_.out (by kernel_rfl)) (fun _ _ _ h => h) (Or.inl ⟨by rfl, ?_⟩) hHeld ?_ ?_
                                            rotate_left
                                            · rintro w' ⟨s0, s1, s2, s3, s4⟩
                                              go_simp
                                              with_reducible rfl
                                            rotate_left
                                            · simp only [Act.put, List.setIfInBounds_toArray, List.set_cons_zero, List.set_cons_succ, i64_w, i32_w]
                                              rfl
                                            refine one_ (i := 4) (N := some 49) #[true, true, true, true, true, true, false, false, true, false, false, false, true, true, true, true, true, true, true, true, true, true, true, true, false, true, true, true, true, false, true, true, true, true, false, false] rfl rfl (one_of HT_.out (by kernel_rfl)) (by decide) (fun K hK => ?_)
                                            refine goes_ Try.func30 (by kernel_rfl) rfl #[.int .u32 (rd x8_2 4), .int .i64 6] (by rfl) rfl rfl (by (try simp only [List.map_toArray, List.map_cons, List.map_nil]); first | done | rfl | (simp only [List.length_drop, List.length_take]; rfl)) ?_
                                            with_reducible refine (Go.Proofs.Ytakbdknmfaoppaa.P.bailiwickref03_right.calls (rd x8_2 4) 6 t117 _ A21.out).mono ?_
                                            rintro e w' ⟨rfl, ⟨nd, rfl⟩⟩
                                            refine ⟨_, rfl, ?_⟩
                                            refine hK.out _ _ ⟨hHeld.1, hHeld.2.1, hHeld.2.2.1, hHeld.2.2.2.1, hHeld.2.2.2.2⟩ (fun hHeld => ?_)
                                            clear hK K
                                            refine norm_ (a' := ?_) ?_ ?_
                                            rotate_left
                                            · show Act.put _ (some 49) _ = _
                                              simp only [Act.put, List.setIfInBounds_toArray, List.set_cons_zero, List.set_cons_succ, i64_w, i32_w]
                                              rfl
                                            refine one_ (i := 6) (N := some 51) #[true, true, true, true, true, true, true, false, true, false, false, false, true, true, true, true, true, true, true, true, true, true, true, true, false, true, true, true, true, false, true, true, true, true, false, false] rfl rfl (one_of HT_.out (by kernel_rfl)) (by decide) (fun K hK => ?_)
                                            refine goes_ Try.func30 (by kernel_rfl) rfl #[.int .u32 (rd x8_2 4), .int .i64 11] (by rfl) rfl rfl (by (try simp only [List.map_toArray, List.map_cons, List.map_nil]); first | done | rfl | (simp only [List.length_drop, List.length_take]; rfl)) ?_
                                            with_reducible refine (Go.Proofs.Ytakbdknmfaoppaa.P.bailiwickref03_right.calls (rd x8_2 4) 11 t118 _ A22.out).mono ?_
                                            rintro e w' ⟨rfl, ⟨nd, rfl⟩⟩
                                            refine ⟨_, rfl, ?_⟩
                                            refine hK.out _ _ ⟨hHeld.1, hHeld.2.1, hHeld.2.2.1, hHeld.2.2.2.1, hHeld.2.2.2.2⟩ (fun hHeld => ?_)
                                            clear hK K
                                            refine norm_ (a' := ?_) ?_ ?_
                                            rotate_left
                                            · show Act.put _ (some 51) _ = _
                                              simp only [Act.put, List.setIfInBounds_toArray, List.set_cons_zero, List.set_cons_succ, i64_w, i32_w]
                                              rfl
                                            refine pure_ (i := 7) (N := some 52) (v := ?_) (a' := ?_) #[true, true, true, true, true, true, true, true, true, false, false, false, true, true, true, true, true, true, true, true, true, true, true, true, false, true, true, true, true, false, true, true, true, true, false, false] rfl rfl (any_of HT_.out (by kernel_rfl)) (fun _ _ _ h => h) (Or.inl ⟨by rfl, ?_⟩) ?_ ?_
                                            rotate_left
                                            · intro w'
                                              go_simp
                                              with_reducible rfl
                                            rotate_left
                                            · simp only [Act.put, List.setIfInBounds_toArray, List.set_cons_zero, List.set_cons_succ, i64_w, i32_w]
                                              rfl
                                            refine one_ (i := 9) (N := some 54) #[true, true, true, true, true, true, true, true, true, true, false, false, true, true, true, true, true, true, true, true, true, true, true, true, false, true, true, true, true, false, true, true, true, true, false, false] rfl rfl (one_of HT_.out (by kernel_rfl)) (by decide) (fun K hK => ?_)
                                            refine goes_ Try.func30 (by kernel_rfl) rfl #[.int .u32 (rd x8_2 4), .int .i64 25] (by rfl) rfl rfl (by (try simp only [List.map_toArray, List.map_cons, List.map_nil]); first | done | rfl | (simp only [List.length_drop, List.length_take]; rfl)) ?_
                                            with_reducible refine (Go.Proofs.Ytakbdknmfaoppaa.P.bailiwickref03_right.calls (rd x8_2 4) 25 t119 _ A23.out).mono ?_
                                            rintro e w' ⟨rfl, ⟨nd, rfl⟩⟩
                                            refine ⟨_, rfl, ?_⟩
                                            refine hK.out _ _ ⟨hHeld.1, hHeld.2.1, hHeld.2.2.1, hHeld.2.2.2.1, hHeld.2.2.2.2⟩ (fun hHeld => ?_)
                                            clear hK K
                                            refine norm_ (a' := ?_) ?_ ?_
                                            rotate_left
                                            · show Act.put _ (some 54) _ = _
                                              simp only [Act.put, List.setIfInBounds_toArray, List.set_cons_zero, List.set_cons_succ, i64_w, i32_w]
                                              rfl
                                            refine pure_ (i := 10) (N := some 55) (v := ?_) (a' := ?_) #[true, true, true, true, true, true, true, true, true, true, true, false, true, true, true, true, true, true, true, true, true, true, true, true, false, true, true, true, true, false, true, true, true, true, false, false] rfl rfl (any_of HT_.out (by kernel_rfl)) (fun _ _ _ h => h) (Or.inl ⟨by rfl, ?_⟩) ?_ ?_
                                            rotate_left
                                            · intro w'
                                              go_simp
                                              with_reducible rfl
                                            rotate_left
                                            · simp only [Act.put, List.setIfInBounds_toArray, List.set_cons_zero, List.set_cons_succ, i64_w, i32_w]
                                              rfl
                                            refine pure_ (i := 11) (N := some 56) (v := ?_) (a' := ?_) #[true, true, true, true, true, true, true, true, true, true, true, true, true, true, true, true, true, true, true, true, true, true, true, true, false, true, true, true, true, false, true, true, true, true, false, false] rfl rfl (any_of HT_.out (by kernel_rfl)) (fun _ _ _ h => h) (Or.inl ⟨by rfl, ?_⟩) ?_ ?_
                                            rotate_left
                                            · intro w'
                                              go_simp
                                              with_reducible rfl
                                            rotate_left
                                            · simp only [Act.put, List.setIfInBounds_toArray, List.set_cons_zero, List.set_cons_succ, i64_w, i32_w]
                                              rfl
                                            refine pure_ (i := 24) (N := some 69) (v := ?_) (a' := ?_) #[true, true, true, true, true, true, true, true, true, true, true, true, true, true, true, true, true, true, true, true, true, true, true, true, true, true, true, true, true, false, true, true, true, true, false, false] rfl rfl (any_of HT_.out (by kernel_rfl)) (fun _ _ _ h => h) (Or.inl ⟨by rfl, ?_⟩) ?_ ?_
                                            rotate_left
                                            · intro w'
                                              go_simp
                                              with_reducible rfl
                                            rotate_left
                                            · simp only [Act.put, List.setIfInBounds_toArray, List.set_cons_zero, List.set_cons_succ, i64_w, i32_w]
                                              rfl
                                            refine pure_ (i := 29) (N := some 74) (v := ?_) (a' := ?_) #[true, true, true, true, true, true, true, true, true, true, true, true, true, true, true, true, true, true, true, true, true, true, true, true, true, true, true, true, true, true, true, true, true, true, false, false] rfl rfl (any_of HT_.out (by kernel_rfl)) (fun _ _ _ h => h) (Or.inl ⟨by rfl, ?_⟩) ?_ ?_
                                            rotate_left
                                            · intro w'
                                              go_simp
                                              with_reducible rfl
                                            rotate_left
                                            · simp only [Act.put, List.setIfInBounds_toArray, List.set_cons_zero, List.set_cons_succ, i64_w, i32_w]
                                              rfl
                                            refine pure_ (i := 34) (N := some 79) (v := ?_) (a' := ?_) #[true, true, true, true, true, true, true, true, true, true, true, true, true, true, true, true, true, true, true, true, true, true, true, true, true, true, true, true, true, true, true, true, true, true, true, false] rfl rfl (any_of HT_.out (by kernel_rfl)) (fun _ _ _ h => h) (Or.inl ⟨by rfl, ?_⟩) ?_ ?_
                                            rotate_left
                                            · intro w'
                                              go_simp
                                              with_reducible rfl
                                            rotate_left
                                            · simp only [Act.put, List.setIfInBounds_toArray, List.set_cons_zero, List.set_cons_succ, i64_w, i32_w]
                                              rfl
                                            refine pure_ (i := 35) (N := some 12) (v := ?_) (a' := ?_) #[true, true, true, true, true, true, true, true, true, true, true, true, true, true, true, true, true, true, true, true, true, true, true, true, true, true, true, true, true, true, true, true, true, true, true, true] rfl rfl (any_of HT_.out (by kernel_rfl)) (fun _ _ _ h => h) (Or.inl ⟨by rfl, ?_⟩) ?_ ?_
                                            rotate_left
                                            · intro w'
                                              go_simp
                                              with_reducible rfl
                                            rotate_left
                                            · simp only [Act.put, List.setIfInBounds_toArray, List.set_cons_zero, List.set_cons_succ, i64_w, i32_w]
                                              rfl
                                            refine done_ (done_of HT_.out (by kernel_rfl)) ?_
                                            try go_wp2
                                            (try (rw [drewN_self w36]; generalize hq_ : World.drewN w36 _ = w36; have n0_ : Aside0 (Kd.R (Kd.int .u32) 34 w36 w.heap.size (fun k_ => some k_ ≠ (.slice (some ad122) t104.length co37 : Value).ownBlock ∧ some k_ ≠ (.slice (some ad123) t108.length co38 : Value).ownBlock ∧ some k_ ≠ (.slice (some ad114) x8_2.length co35 : Value).ownBlock) (.slice Ao16 x3_1.length co16) x3_1) := ⟨by rw [← hq_]; exact (by (with_reducible repeat (first | apply Kd.R_alloc | apply Kd.R_drewN | apply Kd.R_drew)); exact HO_3.out)⟩; have n1_ : Aside0 (Kd.R (Kd.int .u32) 34 w36 w.heap.size (fun k_ => some k_ ≠ (.slice Ao16 x3_1.length co16 : Value).ownBlock ∧ some k_ ≠ (.slice (some ad123) t108.length co38 : Value).ownBlock ∧ some k_ ≠ (.slice (some ad114) x8_2.length co35 : Value).ownBlock) (.slice (some ad122) t104.length co37) t104) := ⟨by rw [← hq_]; exact (by (with_reducible repeat (first | apply Kd.R_alloc | apply Kd.R_drewN | apply Kd.R_drew)); exact HO_4.out)⟩; have n2_ : Aside0 (Kd.R (Kd.int .u32) 34 w36 w.heap.size (fun k_ => some k_ ≠ (.slice Ao16 x3_1.length co16 : Value).ownBlock ∧ some k_ ≠ (.slice (some ad122) t104.length co37 : Value).ownBlock ∧ some k_ ≠ (.slice (some ad114) x8_2.length co35 : Value).ownBlock) (.slice (some ad123) t108.length co38) t108) := ⟨by rw [← hq_]; exact (by (with_reducible repeat (first | apply Kd.R_alloc | apply Kd.R_drewN | apply Kd.R_drew)); exact HO_7.out)⟩; have n3_ : Aside0 (Kd.R (Kd.int .u32) 34 w36 w.heap.size (fun k_ => some k_ ≠ (.slice Ao16 x3_1.length co16 : Value).ownBlock ∧ some k_ ≠ (.slice (some ad122) t104.length co37 : Value).ownBlock ∧ some k_ ≠ (.slice (some ad123) t108.length co38 : Value).ownBlock) (.slice (some ad114) x8_2.length co35) x8_2) := ⟨by rw [← hq_]; exact (by (with_reducible repeat (first | apply Kd.R_alloc | apply Kd.R_drewN | apply Kd.R_drew)); exact HO_8.out)⟩; have n4_ : Aside0 (Below w.heap.size w w36) := ⟨by rw [← hq_]; exact (by repeat (first | (with_reducible first | exact HB.out | apply below_alloc | apply pw_below_drewN | apply below_drew1) | exact HB.out))⟩; clear HO_3 HO_4 HO_7 HO_8 HB hq_; have HO_3 := n0_; have HO_4 := n1_; have HO_7 := n2_; have HO_8 := n3_; have HB := n4_; clear n0_ n1_ n2_ n3_ n4_))
                                            have n0_ := Aside0.mk (Kd.R_drew HO_3.out)
                                            have n1_ := Aside0.mk (Kd.R_drew HO_4.out)
                                            have n2_ := Aside0.mk (Kd.R_drew HO_7.out)
                                            have n3_ := Aside0.mk (Kd.R_drew HO_8.out)
                                            have n4_ := Aside0.mk (below_drew1 HB.out)
                                            clear HO_3
                                            clear HO_4
                                            clear HO_7
                                            clear HO_8
                                            clear HB
                                            have HO_3 := n0_
                                            have HO_4 := n1_
                                            have HO_7 := n2_
                                            have HO_8 := n3_
                                            have HB := n4_
                                            clear n0_ n1_ n2_ n3_ n4_
                                            have p127 : 0 ≤ (1 : Int) := (by omega)
                                            have q127 : 1 < (x8_2.length : Int) := of_decide_eq_true (by first | (with_reducible assumption) | assumption)
                                            obtain ⟨ad127, e127, hx127_0⟩ := Kd.at_int (Kd.R_reads' HO_8.out).2.2 1 p127 q127
                                            obtain rfl : ad114 = ad127 := (by injection e127)
                                            (try simp only [show (1 : Int).toNat = 1 from rfl, Nat.reduceMul, Nat.reduceEqDiff, Go.Addr.add, ↓reduceIte] at hx127_0)
                                            have qi127 : (1 < x8_2.length) = True := eq_true (by omega)
                                            (try rw [show ((1 : Int)).toNat = 1 from rfl] at hx127_0)
                                            replace p127 := eq_true p127
                                            replace q127 := eq_true q127
                                            have p128 : 0 ≤ (2 : Int) := (by omega)
                                            have q128 : 2 < (x8_2.length : Int) := of_decide_eq_true (by first | (with_reducible assumption) | assumption)
                                            obtain ⟨ad128, e128, hx128_0⟩ := Kd.at_int (Kd.R_reads' HO_8.out).2.2 2 p128 q128
                                            obtain rfl : ad114 = ad128 := (by injection e128)
                                            (try simp only [show (2 : Int).toNat = 2 from rfl, Nat.reduceMul, Nat.reduceEqDiff, Go.Addr.add, ↓reduceIte] at hx128_0)
                                            have qi128 : (2 < x8_2.length) = True := eq_true (by omega)
                                            (try rw [show ((2 : Int)).toNat = 2 from rfl] at hx128_0)
                                            replace p128 := eq_true p128
                                            replace q128 := eq_true q128
                                            have p129 : 0 ≤ (1 : Int) := (by omega)
                                            have q129 : 1 < (x8_2.length : Int) := of_decide_eq_true (by first | (with_reducible assumption) | assumption)
                                            obtain ⟨ad129, e129, hx129_0⟩ := Kd.at_int (Kd.R_reads' HO_8.out).2.2 1 p129 q129
                                            obtain rfl : ad114 = ad129 := (by injection e129)
                                            (try simp only [show (1 : Int).toNat = 1 from rfl, Nat.reduceMul, Nat.reduceEqDiff, Go.Addr.add, ↓reduceIte] at hx129_0)
                                            have qi129 : (1 < x8_2.length) = True := eq_true (by omega)
                                            (try rw [show ((1 : Int)).toNat = 1 from rfl] at hx129_0)
                                            replace p129 := eq_true p129
                                            replace q129 := eq_true q129
                                            have p130 : 0 ≤ (2 : Int) := (by omega)
                                            have q130 : 2 < (x8_2.length : Int) := of_decide_eq_true (by first | (with_reducible assumption) | assumption)
                                            obtain ⟨ad130, e130, hx130_0⟩ := Kd.at_int (Kd.R_reads' HO_8.out).2.2 2 p130 q130
                                            obtain rfl : ad114 = ad130 := (by injection e130)
                                            (try simp only [show (2 : Int).toNat = 2 from rfl, Nat.reduceMul, Nat.reduceEqDiff, Go.Addr.add, ↓reduceIte] at hx130_0)
                                            have qi130 : (2 < x8_2.length) = True := eq_true (by omega)
                                            (try rw [show ((2 : Int)).toNat = 2 from rfl] at hx130_0)
                                            replace p130 := eq_true p130
                                            replace q130 := eq_true q130
                                            refine start_ (n := 29) (S := fun w' => w'.cell? ⟨ad114.block, ad114.off + 1, none⟩ = some (.int .u32 (rd x8_2 1)) ∧ w'.cell? ⟨ad114.block, ad114.off + 2, none⟩ = some (.int .u32 (rd x8_2 2)) ∧ w'.cell? ⟨ad114.block, ad114.off + 1, none⟩ = some (.int .u32 (rd x8_2 1)) ∧ w'.cell? ⟨ad114.block, ad114.off + 2, none⟩ = some (.int .u32 (rd x8_2 2))) (ds := []) #[false, false, false, false, false, false, false, false, false, false, false, false, false, false, false, false, false, false, false, false, false, false, false, false, false, false, false, false, false] (by kernel_rfl) rfl rfl ⟨hx127_0, hx128_0, hx129_0, hx130_0⟩ (fun hHeld => ?_); refine with_tabW bailiwickref03_Sum.tab15 bailiwickref03_Sum.bits15 (fun HT_ HW_ => ?_)
                                            generalize w36.drew = w39 at HO_3 HO_4 HO_7 HO_8 HB hx127_0 hx128_0 hx129_0 hx130_0 hHeld ⊢
                                            refine pure_ (i := 0) (N := some 80) (v := ?_) (a' := ?_) #[true, false, false, false, false, false, false, false, false, false, false, false, false, false, false, false, false, false, false, false, false, false, false, false, false, false, false, false, false] rfl rfl (any_of HT_.out (by kernel_rfl)) (fun _ _ _ h => h) (Or.inl ⟨by rfl, ?_⟩) ?_ ?_
                                            rotate_left
                                            · intro w'
                                              go_simp
                                              with_reducible rfl
                                            rotate_left
                                            · simp only [Act.put, List.setIfInBounds_toArray, List.set_cons_zero, List.set_cons_succ, i64_w, i32_w]
                                              rfl
                                            refine pure_ (i := 2) (N := some 82) (v := ?_) (a' := ?_) #[true, false, true, false, false, false, false, false, false, false, false, false, false, false, false, false, false, false, false, false, false, false, false, false, false, false, false, false, false] rfl rfl (any_of HT_.out (by kernel_rfl)) (fun _ _ _ h => h) (Or.inl ⟨by rfl, ?_⟩) ?_ ?_
                                            rotate_left
                                            · intro w'
                                              go_simp
                                              with_reducible rfl
                                            rotate_left
                                            · simp only [Act.put, List.setIfInBounds_toArray, List.set_cons_zero, List.set_cons_succ, i64_w, i32_w]
                                              rfl
                                            refine pure_ (i := 5) (N := some 85) (v := ?_) (a' := ?_) #[true, false, true, false, false, true, false, false, false, false, false, false, false, false, false, false, false, false, false, false, false, false, false, false, false, false, false, false, false] rfl rfl (any_of HT_.out (by kernel_rfl)) (fun _ _ _ h => h) (Or.inl ⟨by rfl, ?_⟩) ?_ ?_
                                            rotate_left
                                            · intro w'
                                              go_simp
                                              with_reducible rfl
                                            rotate_left
                                            · simp only [Act.put, List.setIfInBounds_toArray, List.set_cons_zero, List.set_cons_succ, i64_w, i32_w]
                                              rfl
                                            refine pure_ (i := 8) (N := some 88) (v := ?_) (a' := ?_) #[true, false, true, false, false, true, false, false, true, false, false, false, false, false, false, false, false, false, false, false, false, false, false, false, false, false, false, false, false] rfl rfl (any_of HT_.out (by kernel_rfl)) (fun _ _ _ h => h) (Or.inl ⟨by rfl, ?_⟩) ?_ ?_
                                            rotate_left
                                            · intro w'
                                              go_simp
                                              with_reducible rfl
                                            rotate_left
                                            · simp only [Act.put, List.setIfInBounds_toArray, List.set_cons_zero, List.set_cons_succ, i64_w, i32_w]
                                              rfl
                                            refine pure_ (i := 9) (N := some 89) (v := ?_) (a' := ?_) #[true, false, true, false, false, true, false, false, true, true, false, false, false, false, false, false, false, false, false, false, false, false, false, false, false, false, false, false, false] rfl rfl (any_of HT_.out (by kernel_rfl)) (fun _ _ _ h => h) (Or.inl ⟨by rfl, ?_⟩) ?_ ?_
                                            rotate_left
                                            · intro w'
                                              go_simp
                                              with_reducible rfl
                                            rotate_left
                                            · simp only [Act.put, List.setIfInBounds_toArray, List.set_cons_zero, List.set_cons_succ, i64_w, i32_w]
                                              rfl
                                            refine pure_ (i := 10) (N := some 90) (v := ?_) (a' := ?_) #[true, false, true, false, false, true, false, false, true, true, true, false, false, false, false, false, false, false, false, false, false, false, false, false, false, false, false, false, false] rfl rfl (any_of HT_.out (by kernel_rfl)) (fun _ _ _ h => h) (Or.inl ⟨by rfl, ?_⟩) ?_ ?_
                                            rotate_left
                                            · intro w'
                                              go_simp
                                              with_reducible rfl
                                            rotate_left
                                            · simp only [Act.put, List.setIfInBounds_toArray, List.set_cons_zero, List.set_cons_succ, i64_w, i32_w]
                                              rfl
                                            refine pure_ (i := 13) (N := some 93) (v := ?_) (a' := ?_) #[true, false, true, false, false, true, false, false, true, true, true, false, false, true, false, false, false, false, false, false, false, false, false, false, false, false, false, false, false] rfl rfl (any_of HT_.out (by kernel_rfl)) (fun _ _ _ h => h) (Or.inl ⟨by rfl, ?_⟩) ?_ ?_
                                            rotate_left
                                            · intro w'
                                              go_simp
                                              with_reducible rfl
                                            rotate_left
                                            · simp only [Act.put, List.setIfInBounds_toArray, List.set_cons_zero, List.set_cons_succ, i64_w, i32_w]
                                              rfl
                                            refine pure_ (i := 14) (N := some 94) (v := ?_) (a' := ?_) #[true, false, true, false, false, true, false, false, true, true, true, false, false, true, true, false, false, false, false, false, false, false, false, false, false, false, false, false, false] rfl rfl (any_of HT_.out (by kernel_rfl)) (fun _ _ _ h => h) (Or.inl ⟨by rfl, ?_⟩) ?_ ?_
                                            rotate_left
                                            · intro w'
                                              go_simp
                                              with_reducible rfl
                                            rotate_left
                                            · simp only [Act.put, List.setIfInBounds_toArray, List.set_cons_zero, List.set_cons_succ, i64_w, i32_w]
                                              rfl
                                            refine pure_ (i := 15) (N := some 95) (v := ?_) (a' := ?_) #[true, false, true, false, false, true, false, false, true, true, true, false, false, true, true, true, false, false, false, false, false, false, false, false, false, false, false, false, false] rfl rfl (any_of HT_.out (by kernel_rfl)) (fun _ _ _ h => h) (Or.inl ⟨by rfl, ?_⟩) ?_ ?_
                                            rotate_left
                                            · intro w'
                                              go_simp
                                              with_reducible rfl
                                            rotate_left
                                            · simp only [Act.put, List.setIfInBounds_toArray, List.set_cons_zero, List.set_cons_succ, i64_w, i32_w]
                                              rfl
                                            refine pure_ (i := 19) (N := some 99) (v := ?_) (a' := ?_) #[true, false, true, false, false, true, false, false, true, true, true, false, false, true, true, true, false, false, false, true, false, false, false, false, false, false, false, false, false] rfl rfl (any_of HT_.out (by kernel_rfl)) (fun _ _ _ h => h) (Or.inl ⟨by rfl, ?_⟩) ?_ ?_
                                            rotate_left
                                            · intro w'
                                              go_simp
                                              with_reducible rfl
                                            rotate_left
                                            · simp only [Act.put, List.setIfInBounds_toArray, List.set_cons_zero, List.set_cons_succ, i64_w, i32_w]
                                              rfl
                                            refine pure_ (i := 20) (N := some 100) (v := ?_) (a' := ?_) #[true, false, true, false, false, true, false, false, true, true, true, false, false, true, true, true, false, false, false, true, true, false, false, false, false, false, false, false, false] rfl rfl (any_of HT_.out (by kernel_rfl)) (fun _ _ _ h => h) (Or.inl ⟨by rfl, ?_⟩) ?_ ?_
                                            rotate_left
                                            · intro w'
                                              go_simp
                                              with_reducible rfl
                                            rotate_left
                                            · simp only [Act.put, List.setIfInBounds_toArray, List.set_cons_zero, List.set_cons_succ, i64_w, i32_w]
                                              rfl
                                            refine pure_ (i := 22) (N := some 102) (v := ?_) (a' := ?_) #[true, false, true, false, false, true, false, false, true, true, true, false, false, true, true, true, false, false, false, true, true, false, true, false, false, false, false, false, false] rfl rfl (any_of HT_.out (by kernel_rfl)) (fun _ _ _ h => h) (Or.inl ⟨by rfl, ?_⟩) ?_ ?_
                                            rotate_left
                                            · intro w'
                                              go_simp
                                              with_reducible rfl
                                            rotate_left
                                            · simp only [Act.put, List.setIfInBounds_toArray, List.set_cons_zero, List.set_cons_succ, i64_w, i32_w]
                                              rfl
                                            refine pure_ (i := 23) (N := some 103) (v := ?_) (a' := ?_) #[true, false, true, false, false, true, false, false, true, true, true, false, false, true, true, true, false, false, false, true, true, false, true, true, false, false, false, false, false] rfl rfl (any_of HT_.out (by kernel_rfl)) (fun _ _ _ h => h) (Or.inl ⟨by rfl, ?_⟩) ?_ ?_
                                            rotate_left
                                            · intro w'
                                              go_simp
                                              with_reducible rfl
                                            rotate_left
                                            · simp only [Act.put, List.setIfInBounds_toArray, List.set_cons_zero, List.set_cons_succ, i64_w, i32_w]
                                              rfl
                                            refine take_ (i := 11) (N := some 91) (v := ?_) (a' := ?_) #[true, false, true, false, false, true, false, false, true, true, true, true, false, true, true, true, false, false, false, true, true, false, true, true, false, false, false, false, false] rfl rfl (take_ofW HT_.out HW_.out (by kernel_rfl)) (fun _ _ _ h => h) (Or.inl ⟨by rfl, ?_⟩) hHeld ?_ ?_
                                            rotate_left
                                            · rintro w' ⟨s0, s1, s2, s3⟩
                                              go_simp
                                              with_reducible rfl
                                            rotate_left
                                            · simp only [Act.put, List.setIfInBounds_toArray, List.set_cons_zero, List.set_cons_succ, i64_w, i32_w]
                                              rfl
                                            refine pure_ (i := 12) (N := some 92) (v := ?_) (a' := ?_) #[true, false, true, false, false, true, false, false, true, true, true, true, true, true, true, true, false, false, false, true, true, false, true, true, false, false, false, false, false] rfl rfl (any_of HT_.out (by kernel_rfl)) (fun _ _ _ h => h) (Or.inl ⟨by rfl, ?_⟩) ?_ ?_
                                            rotate_left
                                            · intro w'
                                              go_simp
                                              with_reducible rfl
                                            rotate_left
                                            · simp only [Act.put, List.setIfInBounds_toArray, List.set_cons_zero, List.set_cons_succ, i64_w, i32_w]
                                              rfl
                                            refine take_ (i := 16) (N := some 96) (v := ?_) (a' := ?_) #[true, false, true, false, false, true, false, false, true, true, true, true, true, true, true, true, true, false, false, true, true, false, true, true, false, false, false, false, false] rfl rfl (take_ofW HT_.out HW_.out (by kernel_rfl)) (fun _ _ _ h => h) (Or.inl ⟨by rfl, ?_⟩) hHeld ?_ ?_
                                            rotate_left
                                            · rintro w' ⟨s0, s1, s2, s3⟩
                                              go_simp
                                              with_reducible rfl
                                            rotate_left
                                            · simp only [Act.put, List.setIfInBounds_toArray, List.set_cons_zero, List.set_cons_succ, i64_w, i32_w]
                                              rfl
                                            refine pure_ (i := 17) (N := some 97) (v := ?_) (a' := ?_) #[true, false, true, false, false, true, false, false, true, true, true, true, true, true, true, true, true, true, false, true, true, false, true, true, false, false, false, false, false] rfl rfl (any_of HT_.out (by kernel_rfl)) (fun _ _ _ h => h) (Or.inl ⟨by rfl, ?_⟩) ?_ ?_
                                            rotate_left
                                            · intro w'
                                              go_simp
                                              with_reducible rfl
                                            rotate_left
                                            · simp only [Act.put, List.setIfInBounds_toArray, List.set_cons_zero, List.set_cons_succ, i64_w, i32_w]
                                              rfl
                                            refine pure_ (i := 18) (N := some 98) (v := ?_) (a' := ?_) #[true, false, true, false, false, true, false, false, true, true, true, true, true, true, true, true, true, true, true, true, true, false, true, true, false, false, false, false, false] rfl rfl (any_of HT_.out (by kernel_rfl)) (fun _ _ _ h => h) (Or.inl ⟨by rfl, ?_⟩) ?_ ?_
                                            rotate_left
                                            · intro w'
                                              go_simp
                                              with_reducible rfl
                                            rotate_left
                                            · simp only [Act.put, List.setIfInBounds_toArray, List.set_cons_zero, List.set_cons_succ, i64_w, i32_w]
                                              rfl
                                            refine take_ (i := 21) (N := some 101) (v := ?_) (a' := ?_) #[true, false, true, false, false, true, false, false, true, true, true, true, true, true, true, true, true, true, true, true, true, true, true, true, false, false, false, false, false] rfl rfl (take_ofW HT_.out HW_.out (by kernel_rfl)) (fun _ _ _ h => h) (Or.inl ⟨by rfl, ?_⟩) hHeld ?_ ?_
                                            rotate_left
                                            · rintro w' ⟨s0, s1, s2, s3⟩
                                              go_simp
                                              with_reducible rfl
                                            rotate_left
                                            · simp only [Act.put, List.setIfInBounds_toArray, List.set_cons_zero, List.set_cons_succ, i64_w, i32_w]
                                              rfl
                                            refine take_ (i := 24) (N := some 104) (v := ?_) (a' := ?_) #[true, false, true, false, false, true, false, false, true, true, true, true, true, true, true, true, true, true, true, true, true, true, true, true, true, false, false, false, false] rfl rfl (take_ofW HT_.out HW_.out (by kernel_rfl)) (fun _ _ _ h => h) (Or.inl ⟨by rfl, ?_⟩) hHeld ?_ ?_
                                            rotate_left
                                            · rintro w' ⟨s0, s1, s2, s3⟩
                                              go_simp
                                              with_reducible rfl
                                            rotate_left
                                            · simp only [Act.put, List.setIfInBounds_toArray, List.set_cons_zero, List.set_cons_succ, i64_w, i32_w]
                                              rfl
                                            refine pure_ (i := 25) (N := some 105) (v := ?_) (a' := ?_) #[true, false, true, false, false, true, false, false, true, true, true, true, true, true, true, true, true, true, true, true, true, true, true, true, true, true, false, false, false] rfl rfl (any_of HT_.out (by kernel_rfl)) (fun _ _ _ h => h) (Or.inl ⟨by rfl, ?_⟩) ?_ ?_
                                            rotate_left
                                            · intro w'
                                              go_simp
                                              with_reducible rfl
                                            rotate_left
                                            · simp only [Act.put, List.setIfInBounds_toArray, List.set_cons_zero, List.set_cons_succ, i64_w, i32_w]
                                              rfl
                                            refine pure_ (i := 26) (N := some 106) (v := ?_) (a' := ?_) #[true, false, true, false, false, true, false, false, true, true, true, true, true, true, true, true, true, true, true, true, true, true, true, true, true, true, true, false, false] rfl rfl (any_of HT_.out (by kernel_rfl)) (fun _ _ _ h => h) (Or.inl ⟨by rfl, ?_⟩) ?_ ?_
                                            rotate_left
                                            · intro w'
                                              go_simp
                                              with_reducible rfl
                                            rotate_left
                                            · simp only [Act.put, List.setIfInBounds_toArray, List.set_cons_zero, List.set_cons_succ, i64_w, i32_w]
                                              rfl
                                            refine one_ (i := 1) (N := some 81) #[true, true, true, false, false, true, false, false, true, true, true, true, true, true, true, true, true, true, true, true, true, true, true, true, true, true, true, false, false] rfl rfl (one_of HT_.out (by kernel_rfl)) (by decide) (fun K hK => ?_)
                                            refine goes_ Try.func30 (by kernel_rfl) rfl #[.int .u32 (rd x8_2 0), .int .i64 2] (by rfl) rfl rfl (by (try simp only [List.map_toArray, List.map_cons, List.map_nil]); first | done | rfl | (simp only [List.length_drop, List.length_take]; rfl)) ?_
                                            with_reducible refine (Go.Proofs.Ytakbdknmfaoppaa.P.bailiwickref03_right.calls (rd x8_2 0) 2 t124 _ A29.out).mono ?_
                                            rintro e w' ⟨rfl, ⟨nd, rfl⟩⟩
                                            refine ⟨_, rfl, ?_⟩
                                            refine hK.out _ _ ⟨hHeld.1, hHeld.2.1, hHeld.2.2.1, hHeld.2.2.2⟩ (fun hHeld => ?_)
                                            clear hK K
                                            refine norm_ (a' := ?_) ?_ ?_
                                            rotate_left
                                            · show Act.put _ (some 81) _ = _
                                              simp only [Act.put, List.setIfInBounds_toArray, List.set_cons_zero, List.set_cons_succ, i64_w, i32_w]
                                              rfl
                                            refine one_ (i := 3) (N := some 83) #[true, true, true, true, false, true, false, false, true, true, true, true, true, true, true, true, true, true, true, true, true, true, true, true, true, true, true, false, false] rfl rfl (one_of HT_.out (by kernel_rfl)) (by decide) (fun K hK => ?_)
                                            refine goes_ Try.func30 (by kernel_rfl) rfl #[.int .u32 (rd x8_2 0), .int .i64 13] (by rfl) rfl rfl (by (try simp only [List.map_toArray, List.map_cons, List.map_nil]); first | done | rfl | (simp only [List.length_drop, List.length_take]; rfl)) ?_
                                            with_reducible refine (Go.Proofs.Ytakbdknmfaoppaa.P.bailiwickref03_right.calls (rd x8_2 0) 13 t125 _ A30.out).mono ?_
                                            rintro e w' ⟨rfl, ⟨nd, rfl⟩⟩
                                            refine ⟨_, rfl, ?_⟩
                                            refine hK.out _ _ ⟨hHeld.1, hHeld.2.1, hHeld.2.2.1, hHeld.2.2.2⟩ (fun hHeld => ?_)
                                            clear hK K
                                            refine norm_ (a' := ?_) ?_ ?_
                                            rotate_left
                                            · show Act.put _ (some 83) _ = _
                                              simp only [Act.put, List.setIfInBounds_toArray, List.set_cons_zero, List.set_cons_succ, i64_w, i32_w]
                                              rfl
                                            refine pure_ (i := 4) (N := some 84) (v := ?_) (a' := ?_) #[true, true, true, true, true, true, false, false, true, true, true, true, true, true, true, true, true, true, true, true, true, true, true, true, true, true, true, false, false] rfl rfl (any_of HT_.out (by kernel_rfl)) (fun _ _ _ h => h) (Or.inl ⟨by rfl, ?_⟩) ?_ ?_
                                            rotate_left
                                            · intro w'
                                              go_simp
                                              with_reducible rfl
                                            rotate_left
                                            · simp only [Act.put, List.setIfInBounds_toArray, List.set_cons_zero, List.set_cons_succ, i64_w, i32_w]
                                              rfl
                                            refine one_ (i := 6) (N := some 86) #[true, true, true, true, true, true, true, false, true, true, true, true, true, true, true, true, true, true, true, true, true, true, true, true, true, true, true, false, false] rfl rfl (one_of HT_.out (by kernel_rfl)) (by decide) (fun K hK => ?_)
                                            refine goes_ Try.func30 (by kernel_rfl) rfl #[.int .u32 (rd x8_2 0), .int .i64 22] (by rfl) rfl rfl (by (try simp only [List.map_toArray, List.map_cons, List.map_nil]); first | done | rfl | (simp only [List.length_drop, List.length_take]; rfl)) ?_
                                            with_reducible refine (Go.Proofs.Ytakbdknmfaoppaa.P.bailiwickref03_right.calls (rd x8_2 0) 22 t126 _ A31.out).mono ?_
                                            rintro e w' ⟨rfl, ⟨nd, rfl⟩⟩
                                            refine ⟨_, rfl, ?_⟩
                                            refine hK.out _ _ ⟨hHeld.1, hHeld.2.1, hHeld.2.2.1, hHeld.2.2.2⟩ (fun hHeld => ?_)
                                            clear hK K
                                            refine norm_ (a' := ?_) ?_ ?_
                                            rotate_left
                                            · show Act.put _ (some 86) _ = _
                                              simp only [Act.put, List.setIfInBounds_toArray, List.set_cons_zero, List.set_cons_succ, i64_w, i32_w]
                                              rfl
                                            refine pure_ (i := 7) (N := some 87) (v := ?_) (a' := ?_) #[true, true, true, true, true, true, true, true, true, true, true, true, true, true, true, true, true, true, true, true, true, true, true, true, true, true, true, false, false] rfl rfl (any_of HT_.out (by kernel_rfl)) (fun _ _ _ h => h) (Or.inl ⟨by rfl, ?_⟩) ?_ ?_
                                            rotate_left
                                            · intro w'
                                              go_simp
                                              with_reducible rfl
                                            rotate_left
                                            · simp only [Act.put, List.setIfInBounds_toArray, List.set_cons_zero, List.set_cons_succ, i64_w, i32_w]
                                              rfl
                                            refine pure_ (i := 27) (N := some 107) (v := ?_) (a' := ?_) #[true, true, true, true, true, true, true, true, true, true, true, true, true, true, true, true, true, true, true, true, true, true, true, true, true, true, true, true, false] rfl rfl (any_of HT_.out (by kernel_rfl)) (fun _ _ _ h => h) (Or.inl ⟨by rfl, ?_⟩) ?_ ?_
                                            rotate_left
                                            · intro w'
                                              go_simp
                                              with_reducible rfl
                                            rotate_left
                                            · simp only [Act.put, List.setIfInBounds_toArray, List.set_cons_zero, List.set_cons_succ, i64_w, i32_w]
                                              rfl
                                            refine pure_ (i := 28) (N := some 13) (v := ?_) (a' := ?_) #[true, true, true, true, true, true, true, true, true, true, true, true, true, true, true, true, true, true, true, true, true, true, true, true, true, true, true, true, true] rfl rfl (any_of HT_.out (by kernel_rfl)) (fun _ _ _ h => h) (Or.inl ⟨by rfl, ?_⟩) ?_ ?_
                                            rotate_left
                                            · intro w'
                                              go_simp
                                              with_reducible rfl
                                            rotate_left
                                            · simp only [Act.put, List.setIfInBounds_toArray, List.set_cons_zero, List.set_cons_succ, i64_w, i32_w]
                                              rfl
                                            refine done_ (done_of HT_.out (by kernel_rfl)) ?_
                                            try go_wp2
                                            (try (rw [drewN_self w39]; generalize hq_ : World.drewN w39 _ = w39; have n0_ : Aside0 (Kd.R (Kd.int .u32) 34 w39 w.heap.size (fun k_ => some k_ ≠ (.slice (some ad122) t104.length co37 : Value).ownBlock ∧ some k_ ≠ (.slice (some ad123) t108.length co38 : Value).ownBlock ∧ some k_ ≠ (.slice (some ad114) x8_2.length co35 : Value).ownBlock) (.slice Ao16 x3_1.length co16) x3_1) := ⟨by rw [← hq_]; exact (by (with_reducible repeat (first | apply Kd.R_alloc | apply Kd.R_drewN | apply Kd.R_drew)); exact HO_3.out)⟩; have n1_ : Aside0 (Kd.R (Kd.int .u32) 34 w39 w.heap.size (fun k_ => some k_ ≠ (.slice Ao16 x3_1.length co16 : Value).ownBlock ∧ some k_ ≠ (.slice (some ad123) t108.length co38 : Value).ownBlock ∧ some k_ ≠ (.slice (some ad114) x8_2.length co35 : Value).ownBlock) (.slice (some ad122) t104.length co37) t104) := ⟨by rw [← hq_]; exact (by (with_reducible repeat (first | apply Kd.R_alloc | apply Kd.R_drewN | apply Kd.R_drew)); exact HO_4.out)⟩; have n2_ : Aside0 (Kd.R (Kd.int .u32) 34 w39 w.heap.size (fun k_ => some k_ ≠ (.slice Ao16 x3_1.length co16 : Value).ownBlock ∧ some k_ ≠ (.slice (some ad122) t104.length co37 : Value).ownBlock ∧ some k_ ≠ (.slice (some ad114) x8_2.length co35 : Value).ownBlock) (.slice (some ad123) t108.length co38) t108) := ⟨by rw [← hq_]; exact (by (with_reducible repeat (first | apply Kd.R_alloc | apply Kd.R_drewN | apply Kd.R_drew)); exact HO_7.out)⟩; have n3_ : Aside0 (Kd.R (Kd.int .u32) 34 w39 w.heap.size (fun k_ => some k_ ≠ (.slice Ao16 x3_1.length co16 : Value).ownBlock ∧ some k_ ≠ (.slice (some ad122) t104.length co37 : Value).ownBlock ∧ some k_ ≠ (.slice (some ad123) t108.length co38 : Value).ownBlock) (.slice (some ad114) x8_2.length co35) x8_2) := ⟨by rw [← hq_]; exact (by (with_reducible repeat (first | apply Kd.R_alloc | apply Kd.R_drewN | apply Kd.R_drew)); exact HO_8.out)⟩; have n4_ : Aside0 (Below w.heap.size w w39) := ⟨by rw [← hq_]; exact (by repeat (first | (with_reducible first | exact HB.out | apply below_alloc | apply pw_below_drewN | apply below_drew1) | exact HB.out))⟩; clear HO_3 HO_4 HO_7 HO_8 HB hq_; have HO_3 := n0_; have HO_4 := n1_; have HO_7 := n2_; have HO_8 := n3_; have HB := n4_; clear n0_ n1_ n2_ n3_ n4_))
                                            have n0_ := Aside0.mk (Kd.R_drew HO_3.out)
                                            have n1_ := Aside0.mk (Kd.R_drew HO_4.out)
                                            have n2_ := Aside0.mk (Kd.R_drew HO_7.out)
                                            have n3_ := Aside0.mk (Kd.R_drew HO_8.out)
                                            have n4_ := Aside0.mk (below_drew1 HB.out)
                                            clear HO_3
                                            clear HO_4
                                            clear HO_7
                                            clear HO_8
                                            clear HB
                                            have HO_3 := n0_
                                            have HO_4 := n1_
                                            have HO_7 := n2_
                                            have HO_8 := n3_
                                            have HB := n4_
                                            clear n0_ n1_ n2_ n3_ n4_
                                            have p131 : 0 ≤ (1 : Int) := (by omega)
                                            have q131 : 1 < (x8_2.length : Int) := of_decide_eq_true (by first | (with_reducible assumption) | assumption)
                                            obtain ⟨ad131, e131, hx131_0⟩ := Kd.at_int (Kd.R_reads' HO_8.out).2.2 1 p131 q131
                                            obtain rfl : ad114 = ad131 := (by injection e131)
                                            (try simp only [show (1 : Int).toNat = 1 from rfl, Nat.reduceMul, Nat.reduceEqDiff, Go.Addr.add, ↓reduceIte] at hx131_0)
                                            have qi131 : (1 < x8_2.length) = True := eq_true (by omega)
                                            (try rw [show ((1 : Int)).toNat = 1 from rfl] at hx131_0)
                                            replace p131 := eq_true p131
                                            replace q131 := eq_true q131
                                            have p132 : 0 ≤ (2 : Int) := (by omega)
                                            have q132 : 2 < (x8_2.length : Int) := of_decide_eq_true (by first | (with_reducible assumption) | assumption)
                                            obtain ⟨ad132, e132, hx132_0⟩ := Kd.at_int (Kd.R_reads' HO_8.out).2.2 2 p132 q132
                                            obtain rfl : ad114 = ad132 := (by injection e132)
                                            (try simp only [show (2 : Int).toNat = 2 from rfl, Nat.reduceMul, Nat.reduceEqDiff, Go.Addr.add, ↓reduceIte] at hx132_0)
                                            have qi132 : (2 < x8_2.length) = True := eq_true (by omega)
                                            (try rw [show ((2 : Int)).toNat = 2 from rfl] at hx132_0)
                                            replace p132 := eq_true p132
                                            replace q132 := eq_true q132
                                            have p133 : 0 ≤ (3 : Int) := (by omega)
                                            have q133 : 3 < (x8_2.length : Int) := of_decide_eq_true (by first | (with_reducible assumption) | assumption)
                                            obtain ⟨ad133, e133, hx133_0⟩ := Kd.at_int (Kd.R_reads' HO_8.out).2.2 3 p133 q133
                                            obtain rfl : ad114 = ad133 := (by injection e133)
                                            (try simp only [show (3 : Int).toNat = 3 from rfl, Nat.reduceMul, Nat.reduceEqDiff, Go.Addr.add, ↓reduceIte] at hx133_0)
                                            have qi133 : (3 < x8_2.length) = True := eq_true (by omega)
                                            (try rw [show ((3 : Int)).toNat = 3 from rfl] at hx133_0)
                                            replace p133 := eq_true p133
                                            replace q133 := eq_true q133
                                            have p134 : 0 ≤ (5 : Int) := (by omega)
                                            have q134 : 5 < (x8_2.length : Int) := of_decide_eq_true (by first | (with_reducible assumption) | assumption)
                                            obtain ⟨ad134, e134, hx134_0⟩ := Kd.at_int (Kd.R_reads' HO_8.out).2.2 5 p134 q134
                                            obtain rfl : ad114 = ad134 := (by injection e134)
                                            (try simp only [show (5 : Int).toNat = 5 from rfl, Nat.reduceMul, Nat.reduceEqDiff, Go.Addr.add, ↓reduceIte] at hx134_0)
                                            have qi134 : (5 < x8_2.length) = True := eq_true (by omega)
                                            (try rw [show ((5 : Int)).toNat = 5 from rfl] at hx134_0)
                                            replace p134 := eq_true p134
                                            replace q134 := eq_true q134
                                            have p135 : 0 ≤ (6 : Int) := (by omega)
                                            have q135 : 6 < (x8_2.length : Int) := of_decide_eq_true (by first | (with_reducible assumption) | assumption)
                                            obtain ⟨ad135, e135, hx135_0⟩ := Kd.at_int (Kd.R_reads' HO_8.out).2.2 6 p135 q135
                                            obtain rfl : ad114 = ad135 := (by injection e135)
                                            (try simp only [show (6 : Int).toNat = 6 from rfl, Nat.reduceMul, Nat.reduceEqDiff, Go.Addr.add, ↓reduceIte] at hx135_0)
                                            have qi135 : (6 < x8_2.length) = True := eq_true (by omega)
                                            (try rw [show ((6 : Int)).toNat = 6 from rfl] at hx135_0)
                                            replace p135 := eq_true p135
                                            replace q135 := eq_true q135
                                            refine start_ (n := 24) (S := fun w' => w'.cell? ⟨ad114.block, ad114.off + 1, none⟩ = some (.int .u32 (rd x8_2 1)) ∧ w'.cell? ⟨ad114.block, ad114.off + 2, none⟩ = some (.int .u32 (rd x8_2 2)) ∧ w'.cell? ⟨ad114.block, ad114.off + 3, none⟩ = some (.int .u32 (rd x8_2 3)) ∧ w'.cell? ⟨ad114.block, ad114.off + 5, none⟩ = some (.int .u32 (rd x8_2 5)) ∧ w'.cell? ⟨ad114.block, ad114.off + 6, none⟩ = some (.int .u32 (rd x8_2 6))) (ds := []) #[false, false, false, false, false, false, false, false, false, false, false, false, false, false, false, false, false, false, false, false, false, false, false, false] (by kernel_rfl) rfl rfl ⟨hx131_0, hx132_0, hx133_0, hx134_0, hx135_0⟩ (fun hHeld => ?_); refine with_tabW bailiwickref03_Sum.tab16 bailiwickref03_Sum.bits16 (fun HT_ HW_ => ?_)
                                            generalize w39.drew = w40 at HO_3 HO_4 HO_7 HO_8 HB hx131_0 hx132_0 hx133_0 hx134_0 hx135_0 hHeld ⊢
                                            refine pure_ (i := 0) (N := some 108) (v := ?_) (a' := ?_) #[true, false, false, false, false, false, false, false, false, false, false, false, false, false, false, false, false, false, false, false, false, false, false, false] rfl rfl (any_of HT_.out (by kernel_rfl)) (fun _ _ _ h => h) (Or.inl ⟨by rfl, ?_⟩) ?_ ?_
                                            rotate_left
                                            · intro w'
                                              go_simp
                                              with_reducible rfl
                                            rotate_left
                                            · simp only [Act.put, List.setIfInBounds_toArray, List.set_cons_zero, List.set_cons_succ, i64_w, i32_w]
                                              rfl
                                            refine pure_ (i := 1) (N := some 109) (v := ?_) (a' := ?_) #[true, true, false, false, false, false, false, false, false, false, false, false, false, false, false, false, false, false, false, false, false, false, false, false] rfl rfl (any_of HT_.out (by kernel_rfl)) (fun _ _ _ h => h) (Or.inl ⟨by rfl, ?_⟩) ?_ ?_
                                            rotate_left
                                            · intro w'
                                              go_simp
                                              with_reducible rfl
                                            rotate_left
                                            · simp only [Act.put, List.setIfInBounds_toArray, List.set_cons_zero, List.set_cons_succ, i64_w, i32_w]
                                              rfl
                                            refine pure_ (i := 2) (N := some 110) (v := ?_) (a' := ?_) #[true, true, true, false, false, false, false, false, false, false, false, false, false, false, false, false, false, false, false, false, false, false, false, false] rfl rfl (any_of HT_.out (by kernel_rfl)) (fun _ _ _ h => h) (Or.inl ⟨by rfl, ?_⟩) ?_ ?_
                                            rotate_left
                                            · intro w'
                                              go_simp
                                              with_reducible rfl
                                            rotate_left
                                            · simp only [Act.put, List.setIfInBounds_toArray, List.set_cons_zero, List.set_cons_succ, i64_w, i32_w]
                                              rfl
                                            refine pure_ (i := 3) (N := some 111) (v := ?_) (a' := ?_) #[true, true, true, true, false, false, false, false, false, false, false, false, false, false, false, false, false, false, false, false, false, false, false, false] rfl rfl (any_of HT_.out (by kernel_rfl)) (fun _ _ _ h => h) (Or.inl ⟨by rfl, ?_⟩) ?_ ?_
                                            rotate_left
                                            · intro w'
                                              go_simp
                                              with_reducible rfl
                                            rotate_left
                                            · simp only [Act.put, List.setIfInBounds_toArray, List.set_cons_zero, List.set_cons_succ, i64_w, i32_w]
                                              rfl
                                            refine pure_ (i := 4) (N := some 112) (v := ?_) (a' := ?_) #[true, true, true, true, true, false, false, false, false, false, false, false, false, false, false, false, false, false, false, false, false, false, false, false] rfl rfl (any_of HT_.out (by kernel_rfl)) (fun _ _ _ h => h) (Or.inl ⟨by rfl, ?_⟩) ?_ ?_
                                            rotate_left
                                            · intro w'
                                              go_simp
                                              with_reducible rfl
                                            rotate_left
                                            · simp only [Act.put, List.setIfInBounds_toArray, List.set_cons_zero, List.set_cons_succ, i64_w, i32_w]
                                              rfl
                                            refine pure_ (i := 5) (N := some 113) (v := ?_) (a' := ?_) #[true, true, true, true, true, true, false, false, false, false, false, false, false, false, false, false, false, false, false, false, false, false, false, false] rfl rfl (any_of HT_.out (by kernel_rfl)) (fun _ _ _ h => h) (Or.inl ⟨by rfl, ?_⟩) ?_ ?_
                                            rotate_left
                                            · intro w'
                                              go_simp
                                              with_reducible rfl
                                            rotate_left
                                            · simp only [Act.put, List.setIfInBounds_toArray, List.set_cons_zero, List.set_cons_succ, i64_w, i32_w]
                                              rfl
                                            refine pure_ (i := 7) (N := some 115) (v := ?_) (a' := ?_) #[true, true, true, true, true, true, false, true, false, false, false, false, false, false, false, false, false, false, false, false, false, false, false, false] rfl rfl (any_of HT_.out (by kernel_rfl)) (fun _ _ _ h => h) (Or.inl ⟨by rfl, ?_⟩) ?_ ?_
                                            rotate_left
                                            · intro w'
                                              go_simp
                                              with_reducible rfl
                                            rotate_left
                                            · simp only [Act.put, List.setIfInBounds_toArray, List.set_cons_zero, List.set_cons_succ, i64_w, i32_w]
                                              rfl
                                            refine pure_ (i := 8) (N := some 116) (v := ?_) (a' := ?_) #[true, true, true, true, true, true, false, true, true, false, false, false, false, false, false, false, false, false, false, false, false, false, false, false] rfl rfl (any_of HT_.out (by kernel_rfl)) (fun _ _ _ h => h) (Or.inl ⟨by rfl, ?_⟩) ?_ ?_
                                            rotate_left
                                            · intro w'
                                              go_simp
                                              with_reducible rfl
                                            rotate_left
                                            · simp only [Act.put, List.setIfInBounds_toArray, List.set_cons_zero, List.set_cons_succ, i64_w, i32_w]
                                              rfl
                                            refine pure_ (i := 10) (N := some 118) (v := ?_) (a' := ?_) #[true, true, true, true, true, true, false, true, true, false, true, false, false, false, false, false, false, false, false, false, false, false, false, false] rfl rfl (any_of HT_.out (by kernel_rfl)) (fun _ _ _ h => h) (Or.inl ⟨by rfl, ?_⟩) ?_ ?_
                                            rotate_left
                                            · intro w'
                                              go_simp
                                              with_reducible rfl
                                            rotate_left
                                            · simp only [Act.put, List.setIfInBounds_toArray, List.set_cons_zero, List.set_cons_succ, i64_w, i32_w]
                                              rfl
                                            refine pure_ (i := 11) (N := some 119) (v := ?_) (a' := ?_) #[true, true, true, true, true, true, false, true, true, false, true, true, false, false, false, false, false, false, false, false, false, false, false, false] rfl rfl (any_of HT_.out (by kernel_rfl)) (fun _ _ _ h => h) (Or.inl ⟨by rfl, ?_⟩) ?_ ?_
                                            rotate_left
                                            · intro w'
                                              go_simp
                                              with_reducible rfl
                                            rotate_left
                                            · simp only [Act.put, List.setIfInBounds_toArray, List.set_cons_zero, List.set_cons_succ, i64_w, i32_w]
                                              rfl
                                            refine pure_ (i := 13) (N := some 121) (v := ?_) (a' := ?_) #[true, true, true, true, true, true, false, true, true, false, true, true, false, true, false, false, false, false, false, false, false, false, false, false] rfl rfl (any_of HT_.out (by kernel_rfl)) (fun _ _ _ h => h) (Or.inl ⟨by rfl, ?_⟩) ?_ ?_
                                            rotate_left
                                            · intro w'
                                              go_simp
                                              with_reducible rfl
                                            rotate_left
                                            · simp only [Act.put, List.setIfInBounds_toArray, List.set_cons_zero, List.set_cons_succ, i64_w, i32_w]
                                              rfl
                                            refine pure_ (i := 15) (N := some 123) (v := ?_) (a' := ?_) #[true, true, true, true, true, true, false, true, true, false, true, true, false, true, false, true, false, false, false, false, false, false, false, false] rfl rfl (any_of HT_.out (by kernel_rfl)) (fun _ _ _ h => h) (Or.inl ⟨by rfl, ?_⟩) ?_ ?_
                                            rotate_left
                                            · intro w'
                                              go_simp
                                              with_reducible rfl
                                            rotate_left
                                            · simp only [Act.put, List.setIfInBounds_toArray, List.set_cons_zero, List.set_cons_succ, i64_w, i32_w]
                                              rfl
                                            refine pure_ (i := 16) (N := some 124) (v := ?_) (a' := ?_) #[true, true, true, true, true, true, false, true, true, false, true, true, false, true, false, true, true, false, false, false, false, false, false, false] rfl rfl (any_of HT_.out (by kernel_rfl)) (fun _ _ _ h => h) (Or.inl ⟨by rfl, ?_⟩) ?_ ?_
                                            rotate_left
                                            · intro w'
                                              go_simp
                                              with_reducible rfl
                                            rotate_left
                                            · simp only [Act.put, List.setIfInBounds_toArray, List.set_cons_zero, List.set_cons_succ, i64_w, i32_w]
                                              rfl
                                            refine pure_ (i := 17) (N := some 125) (v := ?_) (a' := ?_) #[true, true, true, true, true, true, false, true, true, false, true, true, false, true, false, true, true, true, false, false, false, false, false, false] rfl rfl (any_of HT_.out (by kernel_rfl)) (fun _ _ _ h => h) (Or.inl ⟨by rfl, ?_⟩) ?_ ?_
                                            rotate_left
                                            · intro w'
                                              go_simp
                                              with_reducible rfl
                                            rotate_left
                                            · simp only [Act.put, List.setIfInBounds_toArray, List.set_cons_zero, List.set_cons_succ, i64_w, i32_w]
                                              rfl
                                            refine pure_ (i := 19) (N := some 127) (v := ?_) (a' := ?_) #[true, true, true, true, true, true, false, true, true, false, true, true, false, true, false, true, true, true, false, true, false, false, false, false] rfl rfl (any_of HT_.out (by kernel_rfl)) (fun _ _ _ h => h) (Or.inl ⟨by rfl, ?_⟩) ?_ ?_
                                            rotate_left
                                            · intro w'
                                              go_simp
                                              with_reducible rfl
                                            rotate_left
                                            · simp only [Act.put, List.setIfInBounds_toArray, List.set_cons_zero, List.set_cons_succ, i64_w, i32_w]
                                              rfl
                                            refine pure_ (i := 20) (N := some 128) (v := ?_) (a' := ?_) #[true, true, true, true, true, true, false, true, true, false, true, true, false, true, false, true, true, true, false, true, true, false, false, false] rfl rfl (any_of HT_.out (by kernel_rfl)) (fun _ _ _ h => h) (Or.inl ⟨by rfl, ?_⟩) ?_ ?_
                                            rotate_left
                                            · intro w'
                                              go_simp
                                              with_reducible rfl
                                            rotate_left
                                            · simp only [Act.put, List.setIfInBounds_toArray, List.set_cons_zero, List.set_cons_succ, i64_w, i32_w]
                                              rfl
                                            refine take_ (i := 6) (N := some 114) (v := ?_) (a' := ?_) #[true, true, true, true, true, true, true, true, true, false, true, true, false, true, false, true, true, true, false, true, true, false, false, false] rfl rfl (take_ofW HT_.out HW_.out (by kernel_rfl)) (fun _ _ _ h => h) (Or.inl ⟨by rfl, ?_⟩) hHeld ?_ ?_
                                            rotate_left
                                            · rintro w' ⟨s0, s1, s2, s3, s4⟩
                                              go_simp
                                              with_reducible rfl
                                            rotate_left
                                            · simp only [Act.put, List.setIfInBounds_toArray, List.set_cons_zero, List.set_cons_succ, i64_w, i32_w]
                                              rfl
                                            refine take_ (i := 9) (N := some 117) (v := ?_) (a' := ?_) #[true, true, true, true, true, true, true, true, true, true, true, true, false, true, false, true, true, true, false, true, true, false, false, false] rfl rfl (take_ofW HT_.out HW_.out (by kernel_rfl)) (fun _ _ _ h => h) (Or.inl ⟨by rfl, ?_⟩) hHeld ?_ ?_
                                            rotate_left
                                            · rintro w' ⟨s0, s1, s2, s3, s4⟩
                                              go_simp
                                              with_reducible rfl
                                            rotate_left
                                            · simp only [Act.put, List.setIfInBounds_toArray, List.set_cons_zero, List.set_cons_succ, i64_w, i32_w]
                                              rfl
                                            refine take_ (i := 12) (N := some 120) (v := ?_) (a' := ?_) #[true, true, true, true, true, true, true, true, true, true, true, true, true, true, false, true, true, true, false, true, true, false, false, false] rfl rfl (take_ofW HT_.out HW_.out (by kernel_rfl)) (fun _ _ _ h => h) (Or.inl ⟨by rfl, ?_⟩) hHeld ?_ ?_
                                            rotate_left
                                            · rintro w' ⟨s0, s1, s2, s3, s4⟩
                                              go_simp
                                              with_reducible rfl
                                            rotate_left
                                            · simp only [Act.put, List.setIfInBounds_toArray, List.set_cons_zero, List.set_cons_succ, i64_w, i32_w]
                                              rfl
                                            refine pure_ (i := 14) (N := some 122) (v := ?_) (a' := ?_) #[true, true, true, true, true, true, true, true, true, true, true, true, true, true, true, true, true, true, false, true, true, false, false, false] rfl rfl (any_of HT_.out (by kernel_rfl)) (fun _ _ _ h => h) (Or.inl ⟨by rfl, ?_⟩) ?_ ?_
                                            rotate_left
                                            · intro w'
                                              go_simp
                                              with_reducible rfl
                                            rotate_left
                                            · simp only [Act.put, List.setIfInBounds_toArray, List.set_cons_zero, List.set_cons_succ, i64_w, i32_w]
                                              rfl
                                            refine take_ (i := 18) (N := some 126) (v := ?_) (a' := ?_) #[true, true, true, true, true, true, true, true, true, true, true, true, true, true, true, true, true, true, true, true, true, false, false, false] rfl rfl (take_ofW HT_.out HW_.out (by kernel_rfl)) (fun _ _ _ h => h) (Or.inl ⟨by rfl, ?_⟩) hHeld ?_ ?_
                                            rotate_left
                                            · rintro w' ⟨s0, s1, s2, s3, s4⟩
                                              go_simp
                                              with_reducible rfl
                                            rotate_left
                                            · simp only [Act.put, List.setIfInBounds_toArray, List.set_cons_zero, List.set_cons_succ, i64_w, i32_w]
                                              rfl
                                            refine take_ (i := 21) (N := some 129) (v := ?_) (a' := ?_) #[true, true, true, true, true, true, true, true, true, true, true, true, true, true, true, true, true, true, true, true, true, true, false, false] rfl rfl (take_ofW HT_.out HW_.out (by kernel_rfl)) (fun _ _ _ h => h) (Or.inl ⟨by rfl, ?_⟩) hHeld ?_ ?_
                                            rotate_left
                                            · rintro w' ⟨s0, s1, s2, s3, s4⟩
                                              go_simp
                                              with_reducible rfl
                                            rotate_left
                                            · simp only [Act.put, List.setIfInBounds_toArray, List.set_cons_zero, List.set_cons_succ, i64_w, i32_w]
                                              rfl
                                            refine one_ (i := 22) (N := some 130) #[true, true, true, true, true, true, true, true, true, true, true, true, true, true, true, true, true, true, true, true, true, true, true, false] rfl rfl (one_of HT_.out (by kernel_rfl)) (by decide) (fun K hK => ?_)
                                            refine Kd.R_lit_step (Kd.int .u32) _ 34 ?hg (N := 130) ?hd (xs := ([((((((((((rd x8_2 7) + (Go.bits .xor .u32 (Go.bits .xor .u32 t117 t118) t119)) % 4294967296) + (Go.bits .xor .u32 (Go.bits .and .u32 (rd x8_2 4) (rd x8_2 5)) (Go.bits .and .u32 (Go.bits .xor .u32 4294967295 (rd x8_2 4)) (rd x8_2 6)))) % 4294967296) + (rd t104 x9_2)) % 4294967296) + (rd t108 x9_2)) % 4294967296) + (((Go.bits .xor .u32 (Go.bits .xor .u32 t124 t125) t126) + (Go.bits .xor .u32 (Go.bits .xor .u32 (Go.bits .and .u32 (rd x8_2 0) (rd x8_2 1)) (Go.bits .and .u32 (rd x8_2 0) (rd x8_2 2))) (Go.bits .and .u32 (rd x8_2 1) (rd x8_2 2)))) % 4294967296)) % 4294967296, rd x8_2 0, rd x8_2 1, rd x8_2 2, ((rd x8_2 3) + (((((((((rd x8_2 7) + (Go.bits .xor .u32 (Go.bits .xor .u32 t117 t118) t119)) % 4294967296) + (Go.bits .xor .u32 (Go.bits .and .u32 (rd x8_2 4) (rd x8_2 5)) (Go.bits .and .u32 (Go.bits .xor .u32 4294967295 (rd x8_2 4)) (rd x8_2 6)))) % 4294967296) + (rd t104 x9_2)) % 4294967296) + (rd t108 x9_2)) % 4294967296)) % 4294967296, rd x8_2 4, rd x8_2 5, rd x8_2 6] : List Int)) (inner := [.int .u32 (((((((((((rd x8_2 7) + (Go.bits .xor .u32 (Go.bits .xor .u32 t117 t118) t119)) % 4294967296) + (Go.bits .xor .u32 (Go.bits .and .u32 (rd x8_2 4) (rd x8_2 5)) (Go.bits .and .u32 (Go.bits .xor .u32 4294967295 (rd x8_2 4)) (rd x8_2 6)))) % 4294967296) + (rd t104 x9_2)) % 4294967296) + (rd t108 x9_2)) % 4294967296) + (((Go.bits .xor .u32 (Go.bits .xor .u32 t124 t125) t126) + (Go.bits .xor .u32 (Go.bits .xor .u32 (Go.bits .and .u32 (rd x8_2 0) (rd x8_2 1)) (Go.bits .and .u32 (rd x8_2 0) (rd x8_2 2))) (Go.bits .and .u32 (rd x8_2 1) (rd x8_2 2)))) % 4294967296)) % 4294967296), .int .u32 (rd x8_2 0), .int .u32 (rd x8_2 1), .int .u32 (rd x8_2 2), .int .u32 (((rd x8_2 3) + (((((((((rd x8_2 7) + (Go.bits .xor .u32 (Go.bits .xor .u32 t117 t118) t119)) % 4294967296) + (Go.bits .xor .u32 (Go.bits .and .u32 (rd x8_2 4) (rd x8_2 5)) (Go.bits .and .u32 (Go.bits .xor .u32 4294967295 (rd x8_2 4)) (rd x8_2 6)))) % 4294967296) + (rd t104 x9_2)) % 4294967296) + (rd t108 x9_2)) % 4294967296)) % 4294967296), .int .u32 (rd x8_2 4), .int .u32 (rd x8_2 5), .int .u32 (rd x8_2 6)]) (ok := fun _ => True) (okp := fun _ => True) ?hr ?hp (fun _ hk => hk) trivial (Below.refl _ _) (Nat.le_refl _) (by simp) ?_; (case hd => rfl); (case hg => rfl); (case hr => first | (go_simp; done) | (go_simp; rfl) | (go_simp; simp only [P.u32w]; done) | (go_simp; simp only [P.u32w, Int.emod_add_emod, Int.add_emod_emod, Int.emod_emod_of_dvd, Int.emod_emod]; done) | (go_simp; simp [P.u32w]; done) | (go_simp; simp [P.u32w, Int.add_assoc])); (case hp => exact (Reps.one (show Kd.M (Kd.int .u32) _ _ _ (((((((((((rd x8_2 7) + (Go.bits .xor .u32 (Go.bits .xor .u32 t117 t118) t119)) % 4294967296) + (Go.bits .xor .u32 (Go.bits .and .u32 (rd x8_2 4) (rd x8_2 5)) (Go.bits .and .u32 (Go.bits .xor .u32 4294967295 (rd x8_2 4)) (rd x8_2 6)))) % 4294967296) + (rd t104 x9_2)) % 4294967296) + (rd t108 x9_2)) % 4294967296) + (((Go.bits .xor .u32 (Go.bits .xor .u32 t124 t125) t126) + (Go.bits .xor .u32 (Go.bits .xor .u32 (Go.bits .and .u32 (rd x8_2 0) (rd x8_2 1)) (Go.bits .and .u32 (rd x8_2 0) (rd x8_2 2))) (Go.bits .and .u32 (rd x8_2 1) (rd x8_2 2)))) % 4294967296)) % 4294967296) [.int .u32 (((((((((((rd x8_2 7) + (Go.bits .xor .u32 (Go.bits .xor .u32 t117 t118) t119)) % 4294967296) + (Go.bits .xor .u32 (Go.bits .and .u32 (rd x8_2 4) (rd x8_2 5)) (Go.bits .and .u32 (Go.bits .xor .u32 4294967295 (rd x8_2 4)) (rd x8_2 6)))) % 4294967296) + (rd t104 x9_2)) % 4294967296) + (rd t108 x9_2)) % 4294967296) + (((Go.bits .xor .u32 (Go.bits .xor .u32 t124 t125) t126) + (Go.bits .xor .u32 (Go.bits .xor .u32 (Go.bits .and .u32 (rd x8_2 0) (rd x8_2 1)) (Go.bits .and .u32 (rd x8_2 0) (rd x8_2 2))) (Go.bits .and .u32 (rd x8_2 1) (rd x8_2 2)))) % 4294967296)) % 4294967296)] from rfl) (Reps.one (show Kd.M (Kd.int .u32) _ _ _ (rd x8_2 0) [.int .u32 (rd x8_2 0)] from rfl) (Reps.one (show Kd.M (Kd.int .u32) _ _ _ (rd x8_2 1) [.int .u32 (rd x8_2 1)] from rfl) (Reps.one (show Kd.M (Kd.int .u32) _ _ _ (rd x8_2 2) [.int .u32 (rd x8_2 2)] from rfl) (Reps.one (show Kd.M (Kd.int .u32) _ _ _ (((rd x8_2 3) + (((((((((rd x8_2 7) + (Go.bits .xor .u32 (Go.bits .xor .u32 t117 t118) t119)) % 4294967296) + (Go.bits .xor .u32 (Go.bits .and .u32 (rd x8_2 4) (rd x8_2 5)) (Go.bits .and .u32 (Go.bits .xor .u32 4294967295 (rd x8_2 4)) (rd x8_2 6)))) % 4294967296) + (rd t104 x9_2)) % 4294967296) + (rd t108 x9_2)) % 4294967296)) % 4294967296) [.int .u32 (((rd x8_2 3) + (((((((((rd x8_2 7) + (Go.bits .xor .u32 (Go.bits .xor .u32 t117 t118) t119)) % 4294967296) + (Go.bits .xor .u32 (Go.bits .and .u32 (rd x8_2 4) (rd x8_2 5)) (Go.bits .and .u32 (Go.bits .xor .u32 4294967295 (rd x8_2 4)) (rd x8_2 6)))) % 4294967296) + (rd t104 x9_2)) % 4294967296) + (rd t108 x9_2)) % 4294967296)) % 4294967296)] from rfl) (Reps.one (show Kd.M (Kd.int .u32) _ _ _ (rd x8_2 4) [.int .u32 (rd x8_2 4)] from rfl) (Reps.one (show Kd.M (Kd.int .u32) _ _ _ (rd x8_2 5) [.int .u32 (rd x8_2 5)] from rfl) (Reps.one (show Kd.M (Kd.int .u32) _ _ _ (rd x8_2 6) [.int .u32 (rd x8_2 6)] from rfl) (Reps.none _ _))))))))))
                                            intro v137 w41 ho42 hb hg_ hnew_
                                            have HS0_ := (hb.cell (World.block_lt_of_cell? _ _ (hHeld.1))).trans (hHeld.1)
                                            have HS1_ := (hb.cell (World.block_lt_of_cell? _ _ (hHeld.2.1))).trans (hHeld.2.1)
                                            have HS2_ := (hb.cell (World.block_lt_of_cell? _ _ (hHeld.2.2.1))).trans (hHeld.2.2.1)
                                            have HS3_ := (hb.cell (World.block_lt_of_cell? _ _ (hHeld.2.2.2.1))).trans (hHeld.2.2.2.1)
                                            have HS4_ := (hb.cell (World.block_lt_of_cell? _ _ (hHeld.2.2.2.2))).trans (hHeld.2.2.2.2)
                                            clear hg_ hnew_
                                            (first | rw [← Ny136.out] at ho42 | (simp only [Int.reduceToNat] at ho42; rw [← Ny136.out] at ho42))
                                            have n0_ := Aside0.mk (Kd.R_elder' (by (with_reducible repeat (first | apply Kd.R_alloc | apply Kd.R_drewN | apply Kd.R_drew)); exact HO_3.out) (Kd.R_base ho42) hb)
                                            have n1_ := Aside0.mk (Kd.R_elder' (by (with_reducible repeat (first | apply Kd.R_alloc | apply Kd.R_drewN | apply Kd.R_drew)); exact HO_4.out) (Kd.R_base ho42) hb)
                                            have n2_ := Aside0.mk (Kd.R_elder' (by (with_reducible repeat (first | apply Kd.R_alloc | apply Kd.R_drewN | apply Kd.R_drew)); exact HO_7.out) (Kd.R_base ho42) hb)
                                            have n3_ := Aside0.mk (Kd.R_elder' (by (with_reducible repeat (first | apply Kd.R_alloc | apply Kd.R_drewN | apply Kd.R_drew)); exact HO_8.out) (Kd.R_base ho42) hb)
                                            have n4_ := Aside0.mk (Kd.R_lower (Kd.R_new' (Kd.R_new' (Kd.R_new' (Kd.R_new' ho42 (Kd.R_lt (by (with_reducible repeat (first | apply Kd.R_alloc | apply Kd.R_drewN | apply Kd.R_drew)); exact HO_3.out))) (Kd.R_lt (by (with_reducible repeat (first | apply Kd.R_alloc | apply Kd.R_drewN | apply Kd.R_drew)); exact HO_4.out))) (Kd.R_lt (by (with_reducible repeat (first | apply Kd.R_alloc | apply Kd.R_drewN | apply Kd.R_drew)); exact HO_7.out))) (Kd.R_lt (by (with_reducible repeat (first | apply Kd.R_alloc | apply Kd.R_drewN | apply Kd.R_drew)); exact HO_8.out))) (below_size (by repeat (first | (with_reducible first | exact HB.out | apply below_alloc | apply pw_below_drewN | apply below_drew1) | exact HB.out))))
                                            have n5_ := Aside0.mk (below_step (by repeat (first | (with_reducible first | exact HB.out | apply below_alloc | apply pw_below_drewN | apply below_drew1) | exact HB.out)) hb)
                                            clear HO_3
                                            clear HO_4
                                            clear HO_7
                                            clear HO_8
                                            clear HB
                                            have HO_3 := n0_
                                            have HO_4 := n1_
                                            have HO_7 := n2_
                                            have HO_8 := n3_
                                            have HO138 := n4_
                                            have HB := n5_
                                            clear n0_ n1_ n2_ n3_ n4_ n5_
                                            clear hb ho42
                                            refine hK.out _ _ ⟨HS0_, HS1_, HS2_, HS3_, HS4_⟩ (fun hHeld => ?_)
                                            clear hK K
                                            refine norm_ (a' := ?_) ?_ ?_
                                            rotate_left
                                            · show Act.put _ (some 130) _ = _
                                              simp only [Act.put, List.setIfInBounds_toArray, List.set_cons_zero, List.set_cons_succ, i64_w, i32_w]
                                              rfl
                                            refine pure_ (i := 23) (N := some 8) (v := ?_) (a' := ?_) #[true, true, true, true, true, true, true, true, true, true, true, true, true, true, true, true, true, true, true, true, true, true, true, true] rfl rfl (any_of HT_.out (by kernel_rfl)) (fun _ _ _ h => h) (Or.inl ⟨by rfl, ?_⟩) ?_ ?_
                                            rotate_left
                                            · intro w'
                                              go_simp
                                              with_reducible rfl
                                            rotate_left
                                            · simp only [Act.put, List.setIfInBounds_toArray, List.set_cons_zero, List.set_cons_succ, i64_w, i32_w]
                                              rfl
                                            refine done_ (done_of HT_.out (by kernel_rfl)) ?_
                                            try go_wp2
                                            go_roundg k2
                                            case measure => have := HK1.out; have := HK2.out; omega
                                            case rel => exact ⟨(y136), (wrap64 (x9_2 + 1)), (by first | rfl | (simp; done) | (simp [*]; done)), H', ⟨by have := HK1.out; have := HK2.out; omega⟩, ⟨by (with_reducible repeat (first | apply Kd.R_alloc | apply Kd.R_drewN | apply Kd.R_drew)); exact Kd.R_mono HO_3.out (fun _ hk => ⟨hk.1.1, ⟨hk.1.2.1, hk.2⟩⟩)⟩, ⟨by (with_reducible repeat (first | apply Kd.R_alloc | apply Kd.R_drewN | apply Kd.R_drew)); exact Kd.R_mono HO_4.out (fun _ hk => ⟨hk.1.1, ⟨hk.1.2.1, hk.2⟩⟩)⟩, ⟨by (with_reducible repeat (first | apply Kd.R_alloc | apply Kd.R_drewN | apply Kd.R_drew)); exact Kd.R_mono HO_7.out (fun _ hk => ⟨hk.1.1, ⟨hk.1.2.1, hk.2⟩⟩)⟩, ⟨by (with_reducible repeat (first | apply Kd.R_alloc | apply Kd.R_drewN | apply Kd.R_drew)); exact Kd.R_mono HO138.out (fun _ hk => ⟨hk.1.1.1.2, ⟨hk.1.1.2, hk.1.2⟩⟩)⟩, ⟨by repeat (first | (with_reducible first | exact HB.out | apply below_alloc | apply pw_below_drewN | apply below_drew1) | exact HB.out)⟩⟩
                                          · rw [if_neg c34] at H
                                            exact absurd H (by simp)
                                        · rw [if_neg c33] at H
                                          exact absurd H (by simp)
                                      · rw [if_neg c32] at H
                                        exact absurd H (by simp)
                                    · rw [if_neg c28] at H
                                      exact absurd H (by simp)
                                  · rw [if_neg c27] at H
                                    exact absurd H (by simp)
                                · rw [if_neg c26] at H
                                  exact absurd H (by simp)
                              · rw [if_neg c25] at H
                                exact absurd H (by simp)
                            · rw [if_neg c24] at H
                              exact absurd H (by simp)
                          · rw [if_neg c20] at H
                            exact absurd H (by simp)
                        · rw [if_neg c19] at H
                          exact absurd H (by simp)
                      · rw [if_neg c18] at H
                        exact absurd H (by simp)
                    · rw [if_neg c17] at H
                      have c17b0 : decide (x9_2 < 64) = false := decide_eq_false c17
                      clear c17
                      have H' := Aside0.mk H
                      clear H
                      go_wp2
                      go_loopg [14] k2 (fun kq v14 w' => ∃ (x3_3 : List Int) (x14_3 : Int), v14 = .int .i64 x14_3 ∧ Aside0 (bailiwickref03_Sum.l2 kq x3_3 t104 t107 x6_1 x8_2 x14_3 = some r) ∧ Aside0 (kq ≤ k2) ∧ Aside0 (Kd.R (Kd.int .u32) 34 w' w.heap.size (fun k_ => some k_ ≠ (v105 : Value).ownBlock ∧ some k_ ≠ (u8 : Value).ownBlock) (.slice Ao16 x3_1.length co16) x3_3) ∧ Aside0 (Kd.R (Kd.int .u32) 34 w' w.heap.size (fun k_ => some k_ ≠ ((.slice Ao16 x3_1.length co16) : Value).ownBlock ∧ some k_ ≠ (u8 : Value).ownBlock) v105 t104) ∧ Aside0 (Kd.R (Kd.int .u32) 34 w' w.heap.size (fun k_ => some k_ ≠ ((.slice Ao16 x3_1.length co16) : Value).ownBlock ∧ some k_ ≠ (v105 : Value).ownBlock) u8 x8_2) ∧ Aside0 (Below w.heap.size w w'))
                      case atStart => exact ⟨(x3_1), (0), (by first | rfl | (simp; done) | (simp [*]; done)), H', ⟨Nat.le_refl _⟩, ⟨by (with_reducible repeat (first | apply Kd.R_alloc | apply Kd.R_drewN | apply Kd.R_drew)); exact Kd.R_mono HO_3.out (fun _ hk => ⟨hk.1, hk.2.2⟩)⟩, ⟨by (with_reducible repeat (first | apply Kd.R_alloc | apply Kd.R_drewN | apply Kd.R_drew)); exact Kd.R_mono HO_4.out (fun _ hk => ⟨hk.1, hk.2.2⟩)⟩, ⟨by (with_reducible repeat (first | apply Kd.R_alloc | apply Kd.R_drewN | apply Kd.R_drew)); exact Kd.R_mono HO_8.out (fun _ hk => ⟨hk.1, hk.2.1⟩)⟩, ⟨by repeat (first | (with_reducible first | exact HB.out | apply below_alloc | apply pw_below_drewN | apply below_drew1) | exact HB.out)⟩⟩
                      case round =>
                        clear H'
                        try clear c1
                        try clear p1
                        try clear q1
                        try clear hx1
                        try clear qi1
                        try clear c2
                        try clear p2
                        try clear c3
                        try clear p6
                        try clear p12
                        try clear q12
                        try clear hx12
                        try clear qi12
                        try clear p13
                        try clear q13
                        try clear hx13
                        try clear qi13
                        try clear c17
                        try clear c17b0
                        try clear c18
                        try clear c19
                        try clear c20
                        try clear c24
                        try clear c25
                        try clear c26
                        try clear c27
                        try clear c28
                        try clear c30
                        try clear c32
                        try clear c33
                        try clear c34
                        try clear hx127_0
                        try clear hx128_0
                        try clear hx129_0
                        try clear hx130_0
                        try clear hx131_0
                        try clear hx132_0
                        try clear hx133_0
                        try clear hx134_0
                        try clear hx135_0
                        try clear p127
                        try clear p128
                        try clear p129
                        try clear p130
                        try clear p131
                        try clear p132
                        try clear p133
                        try clear p134
                        try clear p135
                        try clear q127
                        try clear q128
                        try clear q129
                        try clear q130
                        try clear q131
                        try clear q132
                        try clear q133
                        try clear q134
                        try clear q135
                        obtain ⟨x3_3, x14_3, rfl, HA, HK3, HO_3, HO_4, HO_8, HB⟩ := hrel
                        have hl3_3 := (Kd.R_reads' HO_3.out).1
                        rw [hl3_3] at HO_3
                        (try simp only [hl3_3])
                        (try simp only [hl3_3] at HO_4)
                        (try simp only [hl3_3] at HO_8)
                        cases gk with
                        | zero => exact absurd HA.out (by simp [bailiwickref03_Sum.l2])
                        | succ k3 =>
                          have H := HA.out
                          clear HA
                          simp only [bailiwickref03_Sum.l2] at H
                          by_cases c43 : x14_3 < 8
                          · rw [if_pos c43] at H
                            have c43b0 : decide (x14_3 < 8) = true := decide_eq_true c43
                            clear c43
                            by_cases c44 : 0 ≤ x14_3
                            · rw [if_pos c44] at H
                              have c44b0 : decide (0 ≤ x14_3) = true := decide_eq_true c44
                              clear c44
                              by_cases c45 : x14_3 < (x3_3.length : Int)
                              · rw [if_pos c45] at H
                                have c45b0 : decide (x14_3 < (x3_3.length : Int)) = true := decide_eq_true c45
                                clear c45
                                by_cases c46 : x14_3 < (x8_2.length : Int)
                                · rw [if_pos c46] at H
                                  have c46b0 : decide (x14_3 < (x8_2.length : Int)) = true := decide_eq_true c46
                                  clear c46
                                  obtain ⟨y141, hy141⟩ : ∃ y_ : List Int, y_ = (x3_3.set (x14_3 : Int).toNat (((rd x3_3 x14_3) + (rd x8_2 x14_3)) % 4294967296)) := ⟨_, rfl⟩
                                  replace H : (bailiwickref03_Sum.l2 k3 y141 t104 t107 x6_1 x8_2 (wrap64 (x14_3 + 1))) = some r := by first | (rw [hy141]; with_reducible exact H) | (have H2_ := (Option.bind_some _ _).symm.trans H; rw [hy141]; with_reducible exact H2_) | (have H2_ := (Option.bind_some _ _).symm.trans H; with_reducible exact H2_) | with_reducible exact H | (rw [hy141]; exact H) | exact H
                                  have Ny141 := Aside0.mk hy141
                                  clear hy141
                                  have H' := Aside0.mk H
                                  clear H
                                  try go_wp2
                                  have n0_ := Aside0.mk (Kd.R_drew HO_3.out)
                                  have n1_ := Aside0.mk (Kd.R_drew HO_4.out)
                                  have n2_ := Aside0.mk (Kd.R_drew HO_8.out)
                                  have n3_ := Aside0.mk (below_drew1 HB.out)
                                  clear HO_3
                                  clear HO_4
                                  clear HO_8
                                  clear HB
                                  have HO_3 := n0_
                                  have HO_4 := n1_
                                  have HO_8 := n2_
                                  have HB := n3_
                                  clear n0_ n1_ n2_ n3_
                                  have p139 : 0 ≤ (x14_3 : Int) := of_decide_eq_true (by first | (with_reducible assumption) | assumption)
                                  have q139 : x14_3 < (x3_3.length : Int) := of_decide_eq_true (by first | (with_reducible assumption) | assumption)
                                  obtain ⟨ad139, e139, hx139_0⟩ := Kd.at_int (Kd.R_reads' HO_3.out).2.2 x14_3 p139 q139
                                  cases e139
                                  replace p139 := eq_true p139
                                  replace q139 := eq_true q139
                                  obtain ⟨Ao49, co49, eo49⟩ := Kd.R_slice HO_8.out
                                  (first | subst eo49 | (injection eo49 with f1_ f2_ f3_; have f4_ := f1_.symm; have f5_ := f3_.symm; clear f1_ f2_ f3_; subst f4_; subst f5_))
                                  have p140 : 0 ≤ (x14_3 : Int) := of_decide_eq_true (by first | (with_reducible assumption) | assumption)
                                  have q140 : x14_3 < (x8_2.length : Int) := of_decide_eq_true (by first | (with_reducible assumption) | assumption)
                                  obtain ⟨ad140, e140, hx140_0⟩ := Kd.at_int (Kd.R_reads' HO_8.out).2.2 x14_3 p140 q140
                                  cases e140
                                  replace p140 := eq_true p140
                                  replace q140 := eq_true q140
                                  have p47 : 0 ≤ (x14_3 : Int) := of_decide_eq_true (by first | (with_reducible assumption) | assumption)
                                  have q47 : (x14_3 : Int) < ((x3_3.length : Int) : Int) := of_decide_eq_true (by first | (with_reducible assumption) | assumption)
                                  obtain ⟨go47, co47, eo47, gb47, gl47, cl47, HG47⟩ := Kd.R_form HO_3.out (by omega)
                                  (first | cases eo47 | (injection eo47 with ea_ en_ ec_; (first | subst ea_ | (injection ea_ with ea_; subst ea_)); subst ec_; clear en_))
                                  have GB47 := Aside0.mk gb47
                                  have GG47 := Aside0.mk HG47
                                  clear gb47 gl47 HG47
                                  (first | simp only [add_plain] at hx139_0 | skip)
                                  obtain ⟨hx47_0, hf47_0⟩ := Kd.R_celln 0 HO_3.out (x14_3 : Int) p47 q47
                                  replace p47 := eq_true p47
                                  replace q47 := eq_true q47
                                  have HP50 := Kd.R_putn HO_3.out (x14_3 : Int) (((rd x3_3 x14_3) + (rd x8_2 x14_3)) % 4294967296)
                                  rw [← Ny141.out] at HP50
                                  have HQ50 := Aside0.mk HP50
                                  clear HP50
                                  refine start_ (n := 13) (S := fun w' => w'.cell? ⟨go47, (x14_3).toNat, none⟩ = some (.int .u32 (rd x3_3 x14_3)) ∧ w'.cell? (ad140.add (x14_3).toNat) = some (.int .u32 (rd x8_2 x14_3))) (ds := [12]) #[false, false, false, false, false, false, false, false, false, false, false, false, false] (by kernel_rfl) rfl rfl ⟨hx139_0, hx140_0⟩ (fun hHeld => ?_); refine with_tabW bailiwickref03_Sum.tab20 bailiwickref03_Sum.bits20 (fun HT_ HW_ => ?_)
                                  generalize wr.drew = w48 at HO_3 HO_4 HO_8 HB GG47 HQ50 hf47_0 hx139_0 hx140_0 hx47_0 hHeld ⊢
                                  refine pure_ (i := 0) (N := some 135) (v := ?_) (a' := ?_) #[true, false, false, false, false, false, false, false, false, false, false, false, false] rfl rfl (any_of HT_.out (by kernel_rfl)) (fun _ _ _ h => h) (Or.inl ⟨by rfl, ?_⟩) ?_ ?_
                                  rotate_left
                                  · intro w'
                                    go_simp
                                    with_reducible rfl
                                  rotate_left
                                  · simp only [Act.put, List.setIfInBounds_toArray, List.set_cons_zero, List.set_cons_succ, i64_w, i32_w]
                                    rfl
                                  refine pure_ (i := 1) (N := some 136) (v := ?_) (a' := ?_) #[true, true, false, false, false, false, false, false, false, false, false, false, false] rfl rfl (any_of HT_.out (by kernel_rfl)) (fun _ _ _ h => h) (Or.inl ⟨by rfl, ?_⟩) ?_ ?_
                                  rotate_left
                                  · intro w'
                                    go_simp
                                    with_reducible rfl
                                  rotate_left
                                  · simp only [Act.put, List.setIfInBounds_toArray, List.set_cons_zero, List.set_cons_succ, i64_w, i32_w]
                                    rfl
                                  refine pure_ (i := 2) (N := some 137) (v := ?_) (a' := ?_) #[true, true, true, false, false, false, false, false, false, false, false, false, false] rfl rfl (any_of HT_.out (by kernel_rfl)) (fun _ _ _ h => h) (Or.inl ⟨by rfl, ?_⟩) ?_ ?_
                                  rotate_left
                                  · intro w'
                                    go_simp
                                    with_reducible rfl
                                  rotate_left
                                  · simp only [Act.put, List.setIfInBounds_toArray, List.set_cons_zero, List.set_cons_succ, i64_w, i32_w]
                                    rfl
                                  refine pure_ (i := 3) (N := some 138) (v := ?_) (a' := ?_) #[true, true, true, true, false, false, false, false, false, false, false, false, false] rfl rfl (any_of HT_.out (by kernel_rfl)) (fun _ _ _ h => h) (Or.inl ⟨by rfl, ?_⟩) ?_ ?_
                                  rotate_left
                                  · intro w'
                                    go_simp
                                    with_reducible rfl
                                  rotate_left
                                  · simp only [Act.put, List.setIfInBounds_toArray, List.set_cons_zero, List.set_cons_succ, i64_w, i32_w]
                                    rfl
                                  refine pure_ (i := 4) (N := some 139) (v := ?_) (a' := ?_) #[true, true, true, true, true, false, false, false, false, false, false, false, false] rfl rfl (any_of HT_.out (by kernel_rfl)) (fun _ _ _ h => h) (Or.inl ⟨by rfl, ?_⟩) ?_ ?_
                                  rotate_left
                                  · intro w'
                                    go_simp
                                    with_reducible rfl
                                  rotate_left
                                  · simp only [Act.put, List.setIfInBounds_toArray, List.set_cons_zero, List.set_cons_succ, i64_w, i32_w]
                                    rfl
                                  refine pure_ (i := 6) (N := some 141) (v := ?_) (a' := ?_) #[true, true, true, true, true, false, true, false, false, false, false, false, false] rfl rfl (any_of HT_.out (by kernel_rfl)) (fun _ _ _ h => h) (Or.inl ⟨by rfl, ?_⟩) ?_ ?_
                                  rotate_left
                                  · intro w'
                                    go_simp
                                    with_reducible rfl
                                  rotate_left
                                  · simp only [Act.put, List.setIfInBounds_toArray, List.set_cons_zero, List.set_cons_succ, i64_w, i32_w]
                                    rfl
                                  refine pure_ (i := 7) (N := some 142) (v := ?_) (a' := ?_) #[true, true, true, true, true, false, true, true, false, false, false, false, false] rfl rfl (any_of HT_.out (by kernel_rfl)) (fun _ _ _ h => h) (Or.inl ⟨by rfl, ?_⟩) ?_ ?_
                                  rotate_left
                                  · intro w'
                                    go_simp
                                    with_reducible rfl
                                  rotate_left
                                  · simp only [Act.put, List.setIfInBounds_toArray, List.set_cons_zero, List.set_cons_succ, i64_w, i32_w]
                                    rfl
                                  refine pure_ (i := 8) (N := some 143) (v := ?_) (a' := ?_) #[true, true, true, true, true, false, true, true, true, false, false, false, false] rfl rfl (any_of HT_.out (by kernel_rfl)) (fun _ _ _ h => h) (Or.inl ⟨by rfl, ?_⟩) ?_ ?_
                                  rotate_left
                                  · intro w'
                                    go_simp
                                    with_reducible rfl
                                  rotate_left
                                  · simp only [Act.put, List.setIfInBounds_toArray, List.set_cons_zero, List.set_cons_succ, i64_w, i32_w]
                                    rfl
                                  refine take_ (i := 5) (N := some 140) (v := ?_) (a' := ?_) #[true, true, true, true, true, true, true, true, true, false, false, false, false] rfl rfl (take_ofW HT_.out HW_.out (by kernel_rfl)) (fun _ _ _ h => h) (Or.inl ⟨by rfl, ?_⟩) hHeld ?_ ?_
                                  rotate_left
                                  · rintro w' ⟨s0, s1⟩
                                    go_simp
                                    with_reducible rfl
                                  rotate_left
                                  · simp only [Act.put, List.setIfInBounds_toArray, List.set_cons_zero, List.set_cons_succ, i64_w, i32_w]
                                    rfl
                                  refine take_ (i := 9) (N := some 144) (v := ?_) (a' := ?_) #[true, true, true, true, true, true, true, true, true, true, false, false, false] rfl rfl (take_ofW HT_.out HW_.out (by kernel_rfl)) (fun _ _ _ h => h) (Or.inl ⟨by rfl, ?_⟩) hHeld ?_ ?_
                                  rotate_left
                                  · rintro w' ⟨s0, s1⟩
                                    go_simp
                                    with_reducible rfl
                                  rotate_left
                                  · simp only [Act.put, List.setIfInBounds_toArray, List.set_cons_zero, List.set_cons_succ, i64_w, i32_w]
                                    rfl
                                  refine pure_ (i := 10) (N := some 145) (v := ?_) (a' := ?_) #[true, true, true, true, true, true, true, true, true, true, true, false, false] rfl rfl (any_of HT_.out (by kernel_rfl)) (fun _ _ _ h => h) (Or.inl ⟨by rfl, ?_⟩) ?_ ?_
                                  rotate_left
                                  · intro w'
                                    go_simp
                                    with_reducible rfl
                                  rotate_left
                                  · simp only [Act.put, List.setIfInBounds_toArray, List.set_cons_zero, List.set_cons_succ, i64_w, i32_w]
                                    rfl
                                  refine pure_ (i := 11) (N := some 146) (v := ?_) (a' := ?_) #[true, true, true, true, true, true, true, true, true, true, true, true, false] rfl rfl (any_of HT_.out (by kernel_rfl)) (fun _ _ _ h => h) (Or.inl ⟨by rfl, ?_⟩) ?_ ?_
                                  rotate_left
                                  · intro w'
                                    go_simp
                                    with_reducible rfl
                                  rotate_left
                                  · simp only [Act.put, List.setIfInBounds_toArray, List.set_cons_zero, List.set_cons_succ, i64_w, i32_w]
                                    rfl
                                  refine last_ (i := 12) (N := none) #[true, true, true, true, true, true, true, true, true, true, true, true, true] rfl rfl (one_of HT_.out (by kernel_rfl)) (by decide) (fun K hK => ?_)
                                  refine skip_ (w1 := ?_) (by rfl) rfl ?_ ?_
                                  rotate_left
                                  · go_simp
                                    rfl
                                  refine hK.out _ _ ?_
                                  clear hK K
                                  refine done_ (done_of HT_.out (by kernel_rfl)) ?_
                                  try go_wp2
                                  (try simp only [← hl3_3])
                                  go_roundg k3
                                  case measure => have := HK1.out; have := HK2.out; have := HK3.out; omega
                                  case rel => exact ⟨(y141), (wrap64 (x14_3 + 1)), (by first | rfl | (simp; done) | (simp [*]; done)), H', ⟨by have := HK1.out; have := HK2.out; have := HK3.out; omega⟩, ⟨by (try simp only [hl3_3]); (with_reducible repeat (first | apply Kd.R_alloc | apply Kd.R_drewN | apply Kd.R_drew)); exact HQ50.out⟩, ⟨by (try simp only [hl3_3]); (with_reducible repeat (first | apply Kd.R_alloc | apply Kd.R_drewN | apply Kd.R_drew)); exact Kd.R_mono (Kd.R_far (p := ⟨go47, (x14_3 : Int).toNat, none⟩) (Kd.R_mono HO_4.out (fun k_ hk => (⟨hk, fun e_ => hk.1 (by rw [e_]; rfl)⟩ : _ ∧ k_ ≠ go47))) (fun _ hk => hk.2) (.int .u32 (((rd x3_3 x14_3) + (rd x8_2 x14_3)) % 4294967296))) (fun _ hk => ⟨hk.1.1, hk.1.2⟩)⟩, ⟨by (try simp only [hl3_3]); (with_reducible repeat (first | apply Kd.R_alloc | apply Kd.R_drewN | apply Kd.R_drew)); exact Kd.R_mono (Kd.R_far (p := ⟨go47, (x14_3 : Int).toNat, none⟩) (Kd.R_mono HO_8.out (fun k_ hk => (⟨hk, fun e_ => hk.1 (by rw [e_]; rfl)⟩ : _ ∧ k_ ≠ go47))) (fun _ hk => hk.2) (.int .u32 (((rd x3_3 x14_3) + (rd x8_2 x14_3)) % 4294967296))) (fun _ hk => ⟨hk.1.1, hk.1.2⟩)⟩, ⟨by repeat (first | (with_reducible first | exact HB.out | apply below_alloc | apply pw_below_drewN | apply below_drew1 | refine below_set ?_ GB47.out) | exact HB.out)⟩⟩
                                · rw [if_neg c46] at H
                                  exact absurd H (by simp)
                              · rw [if_neg c45] at H
                                exact absurd H (by simp)
                            · rw [if_neg c44] at H
                              exact absurd H (by simp)
                          · rw [if_neg c43] at H
                            have c43b0 : decide (x14_3 < 8) = false := decide_eq_false c43
                            clear c43
                            have H' := Aside0.mk H
                            clear H
                            go_wp2
                            (try simp only [← hl3_3])
                            go_roundg k3
                            case measure => have := HK1.out; have := HK2.out; have := HK3.out; omega
                            case rel => exact ⟨(x3_3), (wrap64 (x6_1 + 64)), (by first | rfl | (simp; done) | (simp [*]; done)), H', ⟨by have := HK1.out; have := HK2.out; have := HK3.out; omega⟩, ⟨by (try simp only [hl3_3]); (with_reducible repeat (first | apply Kd.R_alloc | apply Kd.R_drewN | apply Kd.R_drew)); exact Kd.R_mono HO_3.out (fun _ hk => hk.1)⟩, ⟨by (try simp only [hl3_3]); (with_reducible repeat (first | apply Kd.R_alloc | apply Kd.R_drewN | apply Kd.R_drew)); exact Kd.R_mono HO_4.out (fun _ hk => hk.1)⟩, ⟨by repeat (first | (with_reducible first | exact HB.out | apply below_alloc | apply pw_below_drewN | apply below_drew1) | exact HB.out)⟩⟩
              · rw [if_neg c13] at H
                exact absurd H (by simp)
            · rw [if_neg c11] at H
              exact absurd H (by simp)
          · rw [if_neg c10] at H
            exact absurd H (by simp)
        · rw [if_neg c9] at H
          exact absurd H (by simp)
      · rw [if_neg c8] at H
        have c8b0 : decide (x6_1 < (t107.size : Int)) = false := decide_eq_false c8
        clear c8
        have H' := Aside0.mk H
        clear H
        go_wp2
        go_loopg [15, 16] k1 (fun kq v15 v16 w' => ∃ (x15_2 : List Int) (x16_2 : Int), v16 = .int .i64 x16_2 ∧ Aside0 (bailiwickref03_Sum.l3 kq x3_1 x15_2 x16_2 = some r) ∧ Aside0 (kq ≤ k1) ∧ Aside0 (Kd.R (Kd.int .u32) 34 w' w.heap.size (fun _ => True) v102 x3_1) ∧ Aside0 (Kd.R (Kd.int .u8) 5 w' w.heap.size (fun _ => True) v15 x15_2) ∧ Aside0 (Below w.heap.size w w'))
        case atStart => exact ⟨(([] : List Int)), (0), (by first | rfl | (simp; done) | (simp [*]; done)), H', ⟨Nat.le_refl _⟩, ⟨by (with_reducible repeat (first | apply Kd.R_alloc | apply Kd.R_drewN | apply Kd.R_drew)); exact Kd.R_mono HO_3.out (fun _ hk => trivial)⟩, ⟨by first | exact Kd.R_nil _ _ _ _ _ | exact Kd.N_nil _ _ _ _ _ | exact Kd.V_nil _ _ _ _ _ | exact Kd.Q_nil _ _ _ _ _ | exact Kd.S_nil _ _ _ _ _⟩, ⟨by repeat (first | (with_reducible first | exact HB.out | apply below_alloc | apply pw_below_drewN | apply below_drew1) | exact HB.out)⟩⟩
        case round =>
          clear H'
          try clear c1
          try clear p1
          try clear q1
          try clear hx1
          try clear qi1
          try clear c2
          try clear p2
          try clear c3
          try clear c4
          try clear p4
          try clear q4
          try clear hx4
          try clear hf4
          try clear p6
          try clear c8
          try clear c8b0
          try clear c9
          try clear c10
          try clear c11
          try clear p12
          try clear q12
          try clear hx12
          try clear qi12
          try clear c13
          try clear p13
          try clear q13
          try clear hx13
          try clear qi13
          try clear p14
          try clear q14
          try clear hx14
          try clear c17
          try clear c17b0
          try clear c18
          try clear c19
          try clear c20
          try clear c24
          try clear c25
          try clear c26
          try clear c27
          try clear c28
          try clear c30
          try clear c32
          try clear c33
          try clear c34
          try clear c43
          try clear c43b0
          try clear c44
          try clear c44b0
          try clear c45
          try clear c45b0
          try clear c46
          try clear c46b0
          try clear p47
          try clear q47
          try clear hx47
          try clear hf47
          try clear hx127_0
          try clear hx128_0
          try clear hx129_0
          try clear hx130_0
          try clear hx131_0
          try clear hx132_0
          try clear hx133_0
          try clear hx134_0
          try clear hx135_0
          try clear hx139_0
          try clear hx140_0
          try clear hx47_0
          try clear p1
          try clear p12
          try clear p127
          try clear p128
          try clear p129
          try clear p13
          try clear p130
          try clear p131
          try clear p132
          try clear p133
          try clear p134
          try clear p135
          try clear p139
          try clear p140
          try clear p2
          try clear p47
          try clear p6
          try clear q1
          try clear q12
          try clear q127
          try clear q128
          try clear q129
          try clear q13
          try clear q130
          try clear q131
          try clear q132
          try clear q133
          try clear q134
          try clear q135
          try clear q139
          try clear q140
          try clear q47
          obtain ⟨x15_2, x16_2, rfl, HA, HK2, HO_3, HO_15, HB⟩ := hrel
          cases gk with
          | zero => exact absurd HA.out (by simp [bailiwickref03_Sum.l3])
          | succ k2 =>
            have H := HA.out
            clear HA
            simp only [bailiwickref03_Sum.l3] at H
            by_cases c51 : x16_2 < 8
            · rw [if_pos c51] at H
              have c51b0 : decide (x16_2 < 8) = true := decide_eq_true c51
              clear c51
              by_cases c52 : 0 ≤ x16_2
              · rw [if_pos c52] at H
                have c52b0 : decide (0 ≤ x16_2) = true := decide_eq_true c52
                clear c52
                by_cases c53 : x16_2 < (x3_1.length : Int)
                · rw [if_pos c53] at H
                  have c53b0 : decide (x16_2 < (x3_1.length : Int)) = true := decide_eq_true c53
                  clear c53
                  obtain ⟨y146, hy146⟩ : ∃ y_ : List Int, y_ = (([((rd x3_1 x16_2) / 16777216) % 256, ((rd x3_1 x16_2) / 65536) % 256, ((rd x3_1 x16_2) / 256) % 256, (rd x3_1 x16_2) % 256] : List Int)) := ⟨_, rfl⟩
                  replace H : (if x15_2.length + y146.length < 140737488355328 then (bailiwickref03_Sum.l3 k2 x3_1 (x15_2 ++ y146) (wrap64 (x16_2 + 1))) else (none)) = some r := by first | (rw [hy146]; with_reducible exact H) | (have H2_ := (Option.bind_some _ _).symm.trans H; rw [hy146]; with_reducible exact H2_) | (have H2_ := (Option.bind_some _ _).symm.trans H; with_reducible exact H2_) | with_reducible exact H | (rw [hy146]; exact H) | exact H
                  have Ny146 := Aside0.mk hy146
                  clear hy146
                  by_cases c54 : x15_2.length + y146.length < 140737488355328
                  · rw [if_pos c54] at H
                    have LMc54 := Aside0.mk c54
                    clear c54
                    obtain ⟨y149, hy149⟩ : ∃ y_ : List Int, y_ = (x15_2 ++ y146) := ⟨_, rfl⟩
                    replace H : (bailiwickref03_Sum.l3 k2 x3_1 y149 (wrap64 (x16_2 + 1))) = some r := by first | (rw [hy149]; with_reducible exact H) | (have H2_ := (Option.bind_some _ _).symm.trans H; rw [hy149]; with_reducible exact H2_) | (have H2_ := (Option.bind_some _ _).symm.trans H; with_reducible exact H2_) | with_reducible exact H | (rw [hy149]; exact H) | exact H
                    have Ny149 := Aside0.mk hy149
                    clear hy149
                    have H' := Aside0.mk H
                    clear H
                    try go_wp2
                    have n0_ := Aside0.mk (Kd.R_drew HO_3.out)
                    have n1_ := Aside0.mk (Kd.R_drew HO_15.out)
                    have n2_ := Aside0.mk (below_drew1 HB.out)
                    clear HO_3
                    clear HO_15
                    clear HB
                    have HO_3 := n0_
                    have HO_15 := n1_
                    have HB := n2_
                    clear n0_ n1_ n2_
                    obtain ⟨Ao56, co56, eo56⟩ := Kd.R_slice HO_3.out
                    (first | subst eo56 | (injection eo56 with f1_ f2_ f3_; have f4_ := f1_.symm; have f5_ := f3_.symm; clear f1_ f2_ f3_; subst f4_; subst f5_))
                    have p142 : 0 ≤ (x16_2 : Int) := of_decide_eq_true (by first | (with_reducible assumption) | assumption)
                    have q142 : x16_2 < (x3_1.length : Int) := of_decide_eq_true (by first | (with_reducible assumption) | assumption)
                    obtain ⟨ad142, e142, hx142_0⟩ := Kd.at_int (Kd.R_reads' HO_3.out).2.2 x16_2 p142 q142
                    cases e142
                    replace p142 := eq_true p142
                    replace q142 := eq_true q142
                    have p143 : 0 ≤ (x16_2 : Int) := of_decide_eq_true (by first | (with_reducible assumption) | assumption)
                    have q143 : x16_2 < (x3_1.length : Int) := of_decide_eq_true (by first | (with_reducible assumption) | assumption)
                    obtain ⟨ad143, e143, hx143_0⟩ := Kd.at_int (Kd.R_reads' HO_3.out).2.2 x16_2 p143 q143
                    obtain rfl : ad142 = ad143 := (by injection e143)
                    replace p143 := eq_true p143
                    replace q143 := eq_true q143
                    have p144 : 0 ≤ (x16_2 : Int) := of_decide_eq_true (by first | (with_reducible assumption) | assumption)
                    have q144 : x16_2 < (x3_1.length : Int) := of_decide_eq_true (by first | (with_reducible assumption) | assumption)
                    obtain ⟨ad144, e144, hx144_0⟩ := Kd.at_int (Kd.R_reads' HO_3.out).2.2 x16_2 p144 q144
                    obtain rfl : ad142 = ad144 := (by injection e144)
                    replace p144 := eq_true p144
                    replace q144 := eq_true q144
                    have p145 : 0 ≤ (x16_2 : Int) := of_decide_eq_true (by first | (with_reducible assumption) | assumption)
                    have q145 : x16_2 < (x3_1.length : Int) := of_decide_eq_true (by first | (with_reducible assumption) | assumption)
                    obtain ⟨ad145, e145, hx145_0⟩ := Kd.at_int (Kd.R_reads' HO_3.out).2.2 x16_2 p145 q145
                    obtain rfl : ad142 = ad145 := (by injection e145)
                    replace p145 := eq_true p145
                    replace q145 := eq_true q145
                    refine start_ (n := 27) (S := fun w' => w'.cell? (ad142.add (x16_2).toNat) = some (.int .u32 (rd x3_1 x16_2)) ∧ w'.cell? (ad142.add (x16_2).toNat) = some (.int .u32 (rd x3_1 x16_2)) ∧ w'.cell? (ad142.add (x16_2).toNat) = some (.int .u32 (rd x3_1 x16_2)) ∧ w'.cell? (ad142.add (x16_2).toNat) = some (.int .u32 (rd x3_1 x16_2))) (ds := [25]) #[false, false, false, false, false, false, false, false, false, false, false, false, false, false, false, false, false, false, false, false, false, false, false, false, false, false, false] (by kernel_rfl) rfl rfl ⟨hx142_0, hx143_0, hx144_0, hx145_0⟩ (fun hHeld => ?_); refine with_tabW bailiwickref03_Sum.tab25 bailiwickref03_Sum.bits25 (fun HT_ HW_ => ?_)
                    generalize wr.drew = w55 at HO_3 HO_15 HB hx142_0 hx143_0 hx144_0 hx145_0 hHeld ⊢
                    refine pure_ (i := 0) (N := some 151) (v := ?_) (a' := ?_) #[true, false, false, false, false, false, false, false, false, false, false, false, false, false, false, false, false, false, false, false, false, false, false, false, false, false, false] rfl rfl (any_of HT_.out (by kernel_rfl)) (fun _ _ _ h => h) (Or.inl ⟨by rfl, ?_⟩) ?_ ?_
                    rotate_left
                    · intro w'
                      go_simp
                      with_reducible rfl
                    rotate_left
                    · simp only [Act.put, List.setIfInBounds_toArray, List.set_cons_zero, List.set_cons_succ, i64_w, i32_w]
                      rfl
                    refine pure_ (i := 1) (N := some 152) (v := ?_) (a' := ?_) #[true, true, false, false, false, false, false, false, false, false, false, false, false, false, false, false, false, false, false, false, false, false, false, false, false, false, false] rfl rfl (any_of HT_.out (by kernel_rfl)) (fun _ _ _ h => h) (Or.inl ⟨by rfl, ?_⟩) ?_ ?_
                    rotate_left
                    · intro w'
                      go_simp
                      with_reducible rfl
                    rotate_left
                    · simp only [Act.put, List.setIfInBounds_toArray, List.set_cons_zero, List.set_cons_succ, i64_w, i32_w]
                      rfl
                    refine pure_ (i := 2) (N := some 153) (v := ?_) (a' := ?_) #[true, true, true, false, false, false, false, false, false, false, false, false, false, false, false, false, false, false, false, false, false, false, false, false, false, false, false] rfl rfl (any_of HT_.out (by kernel_rfl)) (fun _ _ _ h => h) (Or.inl ⟨by rfl, ?_⟩) ?_ ?_
                    rotate_left
                    · intro w'
                      go_simp
                      with_reducible rfl
                    rotate_left
                    · simp only [Act.put, List.setIfInBounds_toArray, List.set_cons_zero, List.set_cons_succ, i64_w, i32_w]
                      rfl
                    refine pure_ (i := 3) (N := some 154) (v := ?_) (a' := ?_) #[true, true, true, true, false, false, false, false, false, false, false, false, false, false, false, false, false, false, false, false, false, false, false, false, false, false, false] rfl rfl (any_of HT_.out (by kernel_rfl)) (fun _ _ _ h => h) (Or.inl ⟨by rfl, ?_⟩) ?_ ?_
                    rotate_left
                    · intro w'
                      go_simp
                      with_reducible rfl
                    rotate_left
                    · simp only [Act.put, List.setIfInBounds_toArray, List.set_cons_zero, List.set_cons_succ, i64_w, i32_w]
                      rfl
                    refine pure_ (i := 7) (N := some 158) (v := ?_) (a' := ?_) #[true, true, true, true, false, false, false, true, false, false, false, false, false, false, false, false, false, false, false, false, false, false, false, false, false, false, false] rfl rfl (any_of HT_.out (by kernel_rfl)) (fun _ _ _ h => h) (Or.inl ⟨by rfl, ?_⟩) ?_ ?_
                    rotate_left
                    · intro w'
                      go_simp
                      with_reducible rfl
                    rotate_left
                    · simp only [Act.put, List.setIfInBounds_toArray, List.set_cons_zero, List.set_cons_succ, i64_w, i32_w]
                      rfl
                    refine pure_ (i := 8) (N := some 159) (v := ?_) (a' := ?_) #[true, true, true, true, false, false, false, true, true, false, false, false, false, false, false, false, false, false, false, false, false, false, false, false, false, false, false] rfl rfl (any_of HT_.out (by kernel_rfl)) (fun _ _ _ h => h) (Or.inl ⟨by rfl, ?_⟩) ?_ ?_
                    rotate_left
                    · intro w'
                      go_simp
                      with_reducible rfl
                    rotate_left
                    · simp only [Act.put, List.setIfInBounds_toArray, List.set_cons_zero, List.set_cons_succ, i64_w, i32_w]
                      rfl
                    refine pure_ (i := 9) (N := some 160) (v := ?_) (a' := ?_) #[true, true, true, true, false, false, false, true, true, true, false, false, false, false, false, false, false, false, false, false, false, false, false, false, false, false, false] rfl rfl (any_of HT_.out (by kernel_rfl)) (fun _ _ _ h => h) (Or.inl ⟨by rfl, ?_⟩) ?_ ?_
                    rotate_left
                    · intro w'
                      go_simp
                      with_reducible rfl
                    rotate_left
                    · simp only [Act.put, List.setIfInBounds_toArray, List.set_cons_zero, List.set_cons_succ, i64_w, i32_w]
                      rfl
                    refine pure_ (i := 13) (N := some 164) (v := ?_) (a' := ?_) #[true, true, true, true, false, false, false, true, true, true, false, false, false, true, false, false, false, false, false, false, false, false, false, false, false, false, false] rfl rfl (any_of HT_.out (by kernel_rfl)) (fun _ _ _ h => h) (Or.inl ⟨by rfl, ?_⟩) ?_ ?_
                    rotate_left
                    · intro w'
                      go_simp
                      with_reducible rfl
                    rotate_left
                    · simp only [Act.put, List.setIfInBounds_toArray, List.set_cons_zero, List.set_cons_succ, i64_w, i32_w]
                      rfl
                    refine pure_ (i := 14) (N := some 165) (v := ?_) (a' := ?_) #[true, true, true, true, false, false, false, true, true, true, false, false, false, true, true, false, false, false, false, false, false, false, false, false, false, false, false] rfl rfl (any_of HT_.out (by kernel_rfl)) (fun _ _ _ h => h) (Or.inl ⟨by rfl, ?_⟩) ?_ ?_
                    rotate_left
                    · intro w'
                      go_simp
                      with_reducible rfl
                    rotate_left
                    · simp only [Act.put, List.setIfInBounds_toArray, List.set_cons_zero, List.set_cons_succ, i64_w, i32_w]
                      rfl
                    refine pure_ (i := 15) (N := some 166) (v := ?_) (a' := ?_) #[true, true, true, true, false, false, false, true, true, true, false, false, false, true, true, true, false, false, false, false, false, false, false, false, false, false, false] rfl rfl (any_of HT_.out (by kernel_rfl)) (fun _ _ _ h => h) (Or.inl ⟨by rfl, ?_⟩) ?_ ?_
                    rotate_left
                    · intro w'
                      go_simp
                      with_reducible rfl
                    rotate_left
                    · simp only [Act.put, List.setIfInBounds_toArray, List.set_cons_zero, List.set_cons_succ, i64_w, i32_w]
                      rfl
                    refine pure_ (i := 19) (N := some 170) (v := ?_) (a' := ?_) #[true, true, true, true, false, false, false, true, true, true, false, false, false, true, true, true, false, false, false, true, false, false, false, false, false, false, false] rfl rfl (any_of HT_.out (by kernel_rfl)) (fun _ _ _ h => h) (Or.inl ⟨by rfl, ?_⟩) ?_ ?_
                    rotate_left
                    · intro w'
                      go_simp
                      with_reducible rfl
                    rotate_left
                    · simp only [Act.put, List.setIfInBounds_toArray, List.set_cons_zero, List.set_cons_succ, i64_w, i32_w]
                      rfl
                    refine pure_ (i := 20) (N := some 171) (v := ?_) (a' := ?_) #[true, true, true, true, false, false, false, true, true, true, false, false, false, true, true, true, false, false, false, true, true, false, false, false, false, false, false] rfl rfl (any_of HT_.out (by kernel_rfl)) (fun _ _ _ h => h) (Or.inl ⟨by rfl, ?_⟩) ?_ ?_
                    rotate_left
                    · intro w'
                      go_simp
                      with_reducible rfl
                    rotate_left
                    · simp only [Act.put, List.setIfInBounds_toArray, List.set_cons_zero, List.set_cons_succ, i64_w, i32_w]
                      rfl
                    refine pure_ (i := 21) (N := some 172) (v := ?_) (a' := ?_) #[true, true, true, true, false, false, false, true, true, true, false, false, false, true, true, true, false, false, false, true, true, true, false, false, false, false, false] rfl rfl (any_of HT_.out (by kernel_rfl)) (fun _ _ _ h => h) (Or.inl ⟨by rfl, ?_⟩) ?_ ?_
                    rotate_left
                    · intro w'
                      go_simp
                      with_reducible rfl
                    rotate_left
                    · simp only [Act.put, List.setIfInBounds_toArray, List.set_cons_zero, List.set_cons_succ, i64_w, i32_w]
                      rfl
                    refine take_ (i := 4) (N := some 155) (v := ?_) (a' := ?_) #[true, true, true, true, true, false, false, true, true, true, false, false, false, true, true, true, false, false, false, true, true, true, false, false, false, false, false] rfl rfl (take_ofW HT_.out HW_.out (by kernel_rfl)) (fun _ _ _ h => h) (Or.inl ⟨by rfl, ?_⟩) hHeld ?_ ?_
                    rotate_left
                    · rintro w' ⟨s0, s1, s2, s3⟩
                      go_simp
                      with_reducible rfl
                    rotate_left
                    · simp only [Act.put, List.setIfInBounds_toArray, List.set_cons_zero, List.set_cons_succ, i64_w, i32_w]
                      rfl
                    refine pure_ (i := 5) (N := some 156) (v := ?_) (a' := ?_) #[true, true, true, true, true, true, false, true, true, true, false, false, false, true, true, true, false, false, false, true, true, true, false, false, false, false, false] rfl rfl (any_of HT_.out (by kernel_rfl)) (fun _ _ _ h => h) (Or.inl ⟨by rfl, ?_⟩) ?_ ?_
                    rotate_left
                    · intro w'
                      go_simp
                      with_reducible rfl
                    rotate_left
                    · simp only [Act.put, List.setIfInBounds_toArray, List.set_cons_zero, List.set_cons_succ, i64_w, i32_w]
                      rfl
                    refine pure_ (i := 6) (N := some 157) (v := ?_) (a' := ?_) #[true, true, true, true, true, true, true, true, true, true, false, false, false, true, true, true, false, false, false, true, true, true, false, false, false, false, false] rfl rfl (any_of HT_.out (by kernel_rfl)) (fun _ _ _ h => h) (Or.inl ⟨by rfl, ?_⟩) ?_ ?_
                    rotate_left
                    · intro w'
                      go_simp
                      with_reducible rfl
                    rotate_left
                    · simp only [Act.put, List.setIfInBounds_toArray, List.set_cons_zero, List.set_cons_succ, i64_w, i32_w]
                      rfl
                    refine take_ (i := 10) (N := some 161) (v := ?_) (a' := ?_) #[true, true, true, true, true, true, true, true, true, true, true, false, false, true, true, true, false, false, false, true, true, true, false, false, false, false, false] rfl rfl (take_ofW HT_.out HW_.out (by kernel_rfl)) (fun _ _ _ h => h) (Or.inl ⟨by rfl, ?_⟩) hHeld ?_ ?_
                    rotate_left
                    · rintro w' ⟨s0, s1, s2, s3⟩
                      go_simp
                      with_reducible rfl
                    rotate_left
                    · simp only [Act.put, List.setIfInBounds_toArray, List.set_cons_zero, List.set_cons_succ, i64_w, i32_w]
                      rfl
                    refine pure_ (i := 11) (N := some 162) (v := ?_) (a' := ?_) #[true, true, true, true, true, true, true, true, true, true, true, true, false, true, true, true, false, false, false, true, true, true, false, false, false, false, false] rfl rfl (any_of HT_.out (by kernel_rfl)) (fun _ _ _ h => h) (Or.inl ⟨by rfl, ?_⟩) ?_ ?_
                    rotate_left
                    · intro w'
                      go_simp
                      with_reducible rfl
                    rotate_left
                    · simp only [Act.put, List.setIfInBounds_toArray, List.set_cons_zero, List.set_cons_succ, i64_w, i32_w]
                      rfl
                    refine pure_ (i := 12) (N := some 163) (v := ?_) (a' := ?_) #[true, true, true, true, true, true, true, true, true, true, true, true, true, true, true, true, false, false, false, true, true, true, false, false, false, false, false] rfl rfl (any_of HT_.out (by kernel_rfl)) (fun _ _ _ h => h) (Or.inl ⟨by rfl, ?_⟩) ?_ ?_
                    rotate_left
                    · intro w'
                      go_simp
                      with_reducible rfl
                    rotate_left
                    · simp only [Act.put, List.setIfInBounds_toArray, List.set_cons_zero, List.set_cons_succ, i64_w, i32_w]
                      rfl
                    refine take_ (i := 16) (N := some 167) (v := ?_) (a' := ?_) #[true, true, true, true, true, true, true, true, true, true, true, true, true, true, true, true, true, false, false, true, true, true, false, false, false, false, false] rfl rfl (take_ofW HT_.out HW_.out (by kernel_rfl)) (fun _ _ _ h => h) (Or.inl ⟨by rfl, ?_⟩) hHeld ?_ ?_
                    rotate_left
                    · rintro w' ⟨s0, s1, s2, s3⟩
                      go_simp
                      with_reducible rfl
                    rotate_left
                    · simp only [Act.put, List.setIfInBounds_toArray, List.set_cons_zero, List.set_cons_succ, i64_w, i32_w]
                      rfl
                    refine pure_ (i := 17) (N := some 168) (v := ?_) (a' := ?_) #[true, true, true, true, true, true, true, true, true, true, true, true, true, true, true, true, true, true, false, true, true, true, false, false, false, false, false] rfl rfl (any_of HT_.out (by kernel_rfl)) (fun _ _ _ h => h) (Or.inl ⟨by rfl, ?_⟩) ?_ ?_
                    rotate_left
                    · intro w'
                      go_simp
                      with_reducible rfl
                    rotate_left
                    · simp only [Act.put, List.setIfInBounds_toArray, List.set_cons_zero, List.set_cons_succ, i64_w, i32_w]
                      rfl
                    refine pure_ (i := 18) (N := some 169) (v := ?_) (a' := ?_) #[true, true, true, true, true, true, true, true, true, true, true, true, true, true, true, true, true, true, true, true, true, true, false, false, false, false, false] rfl rfl (any_of HT_.out (by kernel_rfl)) (fun _ _ _ h => h) (Or.inl ⟨by rfl, ?_⟩) ?_ ?_
                    rotate_left
                    · intro w'
                      go_simp
                      with_reducible rfl
                    rotate_left
                    · simp only [Act.put, List.setIfInBounds_toArray, List.set_cons_zero, List.set_cons_succ, i64_w, i32_w]
                      rfl
                    refine take_ (i := 22) (N := some 173) (v := ?_) (a' := ?_) #[true, true, true, true, true, true, true, true, true, true, true, true, true, true, true, true, true, true, true, true, true, true, true, false, false, false, false] rfl rfl (take_ofW HT_.out HW_.out (by kernel_rfl)) (fun _ _ _ h => h) (Or.inl ⟨by rfl, ?_⟩) hHeld ?_ ?_
                    rotate_left
                    · rintro w' ⟨s0, s1, s2, s3⟩
                      go_simp
                      with_reducible rfl
                    rotate_left
                    · simp only [Act.put, List.setIfInBounds_toArray, List.set_cons_zero, List.set_cons_succ, i64_w, i32_w]
                      rfl
                    refine pure_ (i := 23) (N := some 174) (v := ?_) (a' := ?_) #[true, true, true, true, true, true, true, true, true, true, true, true, true, true, true, true, true, true, true, true, true, true, true, true, false, false, false] rfl rfl (any_of HT_.out (by kernel_rfl)) (fun _ _ _ h => h) (Or.inl ⟨by rfl, ?_⟩) ?_ ?_
                    rotate_left
                    · intro w'
                      go_simp
                      with_reducible rfl
                    rotate_left
                    · simp only [Act.put, List.setIfInBounds_toArray, List.set_cons_zero, List.set_cons_succ, i64_w, i32_w]
                      rfl
                    refine one_ (i := 24) (N := some 175) #[true, true, true, true, true, true, true, true, true, true, true, true, true, true, true, true, true, true, true, true, true, true, true, true, true, false, false] rfl rfl (one_of HT_.out (by kernel_rfl)) (by decide) (fun K hK => ?_)
                    refine Kd.R_lit_step (Kd.int .u8) _ 5 ?hg (N := 175) ?hd (xs := ([((rd x3_1 x16_2) / 16777216) % 256, ((rd x3_1 x16_2) / 65536) % 256, ((rd x3_1 x16_2) / 256) % 256, (rd x3_1 x16_2) % 256] : List Int)) (inner := [.int .u8 (((rd x3_1 x16_2) / 16777216) % 256), .int .u8 (((rd x3_1 x16_2) / 65536) % 256), .int .u8 (((rd x3_1 x16_2) / 256) % 256), .int .u8 ((rd x3_1 x16_2) % 256)]) (ok := fun _ => True) (okp := fun _ => True) ?hr ?hp (fun _ hk => hk) trivial (Below.refl _ _) (Nat.le_refl _) (by simp) ?_; (case hd => rfl); (case hg => rfl); (case hr => first | (go_simp; done) | (go_simp; rfl) | (go_simp; simp only [P.u32w]; done) | (go_simp; simp only [P.u32w, Int.emod_add_emod, Int.add_emod_emod, Int.emod_emod_of_dvd, Int.emod_emod]; done) | (go_simp; simp [P.u32w]; done) | (go_simp; simp [P.u32w, Int.add_assoc])); (case hp => exact (Reps.one (show Kd.M (Kd.int .u8) _ _ _ (((rd x3_1 x16_2) / 16777216) % 256) [.int .u8 (((rd x3_1 x16_2) / 16777216) % 256)] from rfl) (Reps.one (show Kd.M (Kd.int .u8) _ _ _ (((rd x3_1 x16_2) / 65536) % 256) [.int .u8 (((rd x3_1 x16_2) / 65536) % 256)] from rfl) (Reps.one (show Kd.M (Kd.int .u8) _ _ _ (((rd x3_1 x16_2) / 256) % 256) [.int .u8 (((rd x3_1 x16_2) / 256) % 256)] from rfl) (Reps.one (show Kd.M (Kd.int .u8) _ _ _ ((rd x3_1 x16_2) % 256) [.int .u8 ((rd x3_1 x16_2) % 256)] from rfl) (Reps.none _ _))))))
                    intro v147 w57 ho58 hb hg_ hnew_
                    have HS0_ := (hb.cell (World.block_lt_of_cell? _ _ (hHeld.1))).trans (hHeld.1)
                    have HS1_ := (hb.cell (World.block_lt_of_cell? _ _ (hHeld.2.1))).trans (hHeld.2.1)
                    have HS2_ := (hb.cell (World.block_lt_of_cell? _ _ (hHeld.2.2.1))).trans (hHeld.2.2.1)
                    have HS3_ := (hb.cell (World.block_lt_of_cell? _ _ (hHeld.2.2.2))).trans (hHeld.2.2.2)
                    clear hg_ hnew_
                    (first | rw [← Ny146.out] at ho58 | (simp only [Int.reduceToNat] at ho58; rw [← Ny146.out] at ho58))
                    have n0_ := Aside0.mk (Kd.R_below (by (with_reducible repeat (first | apply Kd.R_alloc | apply Kd.R_drewN | apply Kd.R_drew)); exact HO_3.out) hb)
                    have n1_ := Aside0.mk (Kd.R_elder' (by (with_reducible repeat (first | apply Kd.R_alloc | apply Kd.R_drewN | apply Kd.R_drew)); exact HO_15.out) (Kd.R_base ho58) hb)
                    have n2_ := Aside0.mk (Kd.R_lower (Kd.R_new' ho58 (Kd.R_lt (by (with_reducible repeat (first | apply Kd.R_alloc | apply Kd.R_drewN | apply Kd.R_drew)); exact HO_15.out))) (below_size (by repeat (first | (with_reducible first | exact HB.out | apply below_alloc | apply pw_below_drewN | apply below_drew1) | exact HB.out))))
                    have n3_ := Aside0.mk (below_step (by repeat (first | (with_reducible first | exact HB.out | apply below_alloc | apply pw_below_drewN | apply below_drew1) | exact HB.out)) hb)
                    clear HO_3
                    clear HO_15
                    clear HB
                    have HO_3 := n0_
                    have HO_15 := n1_
                    have HO148 := n2_
                    have HB := n3_
                    clear n0_ n1_ n2_ n3_
                    clear hb ho58
                    obtain ⟨Ao60, co60, eo60⟩ := Kd.R_slice HO148.out
                    (first | subst eo60 | (injection eo60 with f1_ f2_ f3_; have f4_ := f1_.symm; have f5_ := f3_.symm; clear f1_ f2_ f3_; subst f4_; subst f5_))
                    refine hK.out _ _ ⟨HS0_, HS1_, HS2_, HS3_⟩ (fun hHeld => ?_)
                    clear hK K
                    refine norm_ (a' := ?_) ?_ ?_
                    rotate_left
                    · show Act.put _ (some 175) _ = _
                      simp only [Act.put, List.setIfInBounds_toArray, List.set_cons_zero, List.set_cons_succ, i64_w, i32_w]
                      rfl
                    refine last_ (i := 25) (N := some 176) #[true, true, true, true, true, true, true, true, true, true, true, true, true, true, true, true, true, true, true, true, true, true, true, true, true, true, false] rfl rfl (one_of HT_.out (by kernel_rfl)) (by decide) (fun K hK => ?_)
                    refine Kd.R_append_rows_step (Kd.int .u8) (w0 := w) w.heap.size (by rfl) (.tmp 151) (.tmp 175) 26 5 (.int .u8 0) 1 rfl Try.underlying26 info5 rfl (by decide) (by omega) u15 x15_2 y146 _ _ _ (fun k_ => some k_ ≠ (.slice Ao60 y146.length co60 : Value).ownBlock) (fun _ => False) rfl rfl ?aO ?aR (fun _ _ h => h) (fun _ h => h.elim) ?aF ?aB ?aS ?aL ?_
                    (case aR => repeat (first | exact (Kd.R_reads' HO148.out).2.2 | (with_reducible refine Kd.C_alloc ?_ _) | (with_reducible refine Kd.C_drewN ?_ _) | (with_reducible refine Kd.C_drew ?_)))
                    (case aB => exact (by repeat (first | (with_reducible first | exact HB.out | apply below_alloc | apply pw_below_drewN | apply below_drew1) | exact HB.out)))
                    (case aF => exact (fun k_ hk => Kd.fresh' (Kd.R_lt (by (with_reducible repeat (first | apply Kd.R_alloc | apply Kd.R_drewN | apply Kd.R_drew)); exact HO148.out)) k_ hk))
                    (case aO => exact (by (with_reducible repeat (first | apply Kd.R_alloc | apply Kd.R_drewN | apply Kd.R_drew)); exact Kd.R_mono HO_15.out (fun _ hk => hk.2)))
                    (case aS => exact (below_size (by repeat (first | (with_reducible first | exact HB.out | apply below_alloc | apply pw_below_drewN | apply below_drew1) | exact HB.out))))
                    (case aL => have := LMc54.out; omega)
                    intro v150 w59 ho hb hg hat
                    rw [← Ny149.out] at ho
                    have n0_ := Aside0.mk (Kd.R_over' (by (with_reducible repeat (first | apply Kd.R_alloc | apply Kd.R_drewN | apply Kd.R_drew)); exact HO_3.out) (Kd.R_typed (by (with_reducible repeat (first | apply Kd.R_alloc | apply Kd.R_drewN | apply Kd.R_drew)); exact HO_15.out)) (by decide) hg)
                    have n1_ := Aside0.mk (Kd.R_after (ok := (fun _ => True)) (by (with_reducible repeat (first | apply Kd.R_alloc | apply Kd.R_drewN | apply Kd.R_drew)); exact HO148.out) hg hat)
                    have n2_ := Aside0.mk (hb)
                    have n3_ := Aside0.mk (ho)
                    clear HO_3
                    clear HO148
                    clear HB
                    clear HO_15
                    have HO_3 := n0_
                    have HO148 := n1_
                    have HB := n2_
                    have HO151 := n3_
                    clear n0_ n1_ n2_ n3_
                    clear ho hb hg hat
                    refine hK.out _ _ ?_
                    clear hK K
                    refine norm_ (a' := ?_) ?_ ?_
                    rotate_left
                    · show Act.put _ (some 176) _ = _
                      simp only [Act.put, List.setIfInBounds_toArray, List.set_cons_zero, List.set_cons_succ, i64_w, i32_w]
                      rfl
                    refine pure_ (i := 26) (N := some 15) (v := ?_) (a' := ?_) #[true, true, true, true, true, true, true, true, true, true, true, true, true, true, true, true, true, true, true, true, true, true, true, true, true, true, true] rfl rfl (any_of HT_.out (by kernel_rfl)) (fun _ _ _ h => h) (Or.inl ⟨by rfl, ?_⟩) ?_ ?_
                    rotate_left
                    · intro w'
                      go_simp
                      with_reducible rfl
                    rotate_left
                    · simp only [Act.put, List.setIfInBounds_toArray, List.set_cons_zero, List.set_cons_succ, i64_w, i32_w]
                      rfl
                    refine done_ (done_of HT_.out (by kernel_rfl)) ?_
                    try go_wp2
                    go_roundg k2
                    case measure => have := HK1.out; have := HK2.out; omega
                    case rel => exact ⟨(y149), (wrap64 (x16_2 + 1)), (by first | rfl | (simp; done) | (simp [*]; done)), H', ⟨by have := HK1.out; have := HK2.out; omega⟩, ⟨by (with_reducible repeat (first | apply Kd.R_alloc | apply Kd.R_drewN | apply Kd.R_drew)); exact HO_3.out⟩, ⟨by (with_reducible repeat (first | apply Kd.R_alloc | apply Kd.R_drewN | apply Kd.R_drew)); exact Kd.R_mono HO151.out (fun _ hk => trivial)⟩, ⟨by repeat (first | (with_reducible first | exact HB.out | apply below_alloc | apply pw_below_drewN | apply below_drew1) | exact HB.out)⟩⟩
                  · rw [if_neg c54] at H
                    exact absurd H (by simp)
                · rw [if_neg c53] at H
                  exact absurd H (by simp)
              · rw [if_neg c52] at H
                exact absurd H (by simp)
            · rw [if_neg c51] at H
              have c51b0 : decide (x16_2 < 8) = false := decide_eq_false c51
              clear c51
              obtain rfl := Option.some.inj H
              have hcv61 := own_string (P := Try.prog) Try.underlying26 Try.underlying5 Try.underlying9 (Kd.own_of_R HO_15.out)
              go_wp2
              go_ret
              exact ⟨by first | rfl | (simp [errW_none, errW_some] <;> rfl) | (simp [*, errW_none, errW_some] <;> rfl), by repeat (first | (with_reducible first | exact HB.out | apply below_alloc | apply pw_below_drewN | apply below_drew1) | exact HB.out)⟩

end Go.Proofs.Ytakbdknmfaoppaa.Q
