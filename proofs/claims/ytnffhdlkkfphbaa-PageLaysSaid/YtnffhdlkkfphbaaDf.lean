/-
  The walk of chapter 6's examples.
-/
import Derived.Test.YtnffhdlkkfphbaaDe
namespace Go.Proofs.Ytnffhdlkkfphbaa.D
set_option linter.unusedVariables false
set_option linter.unusedSimpArgs false
open Go.RowKit Go.Proofs.YtnffhdlkkfphbaaW.PrintWords Go.Proofs.YtnffhdlkkfphbaaW.PrintLast Go.Proofs.YtnffhdlkkfphbaaW.PrintMore
open Go.Lib (hid)
set_option maxRecDepth 100000 in
theorem zeros_nums : strOfNums (List.replicate 256 0) = zeros := by
  unfold zeros strOfNums
  congr 1
theorem nums_more (y : List Int) (b : UInt8) (h : y.length = 255) : (strOfNums y ++ ⟨#[b]⟩).size = 256 := by
  rw [ByteArray.size_append]
  simp [strOfNums, ByteArray.size, h]
set_option maxHeartbeats 600000 in
set_option maxRecDepth 100000 in
theorem examples.calls (w : World) : Calls Try.prog 20 #[] w fun e w' => e = .returned (.bool true) ∧ Below w.heap.size w w' := by
  obtain ⟨B, hB⟩ : ∃ B, B = w.heap.size := ⟨_, rfl⟩
  rw [← hB]
  replace hB := hid hB
  obtain ⟨y1, hy1⟩ : ∃ y : List Int, y = List.replicate 255 0 := ⟨_, rfl⟩
  obtain ⟨y2, hy2⟩ : ∃ y : List Int, y = List.replicate 256 0 := ⟨_, rfl⟩
  have hs1 := hid (nums_more y1 120 (by rw [hy1, List.length_replicate]))
  have hq : ¬9223372036854775807 < (strOfNums y1).size + 1 := by
    have : (strOfNums y1).size = 255 := by rw [hy1]; simp [strOfNums, ByteArray.size]
    omega
  have hz2 : zeros = strOfNums y2 := by rw [hy2, zeros_nums]
  have hN : Hid (∀ W : World, B ≤ W.heap.size → Calls Try.prog 21 #[.int .i64 8] W fun e w' => ∃ d, e = .returned (.tuple #[.pointer (some ⟨d, 0, none⟩), .int .i64 0]) ∧ DiskOn B w' d (ex0 (strOfNums y2)) ∧ Below W.heap.size W w') := by
    rw [← hz2]
    exact hid (fun W hW => New.on B 8 (by omega) W hW)
  clear hz2
  have hN7 := hid (fun W => New.no 7 (by omega) W)
  have hW := hid (fun (W : World) (d : Nat) (Z S : ByteArray) (hS : S.size = 256) (hD : DiskOn B W d (ex0 Z)) (hb : B ≤ W.heap.size) => (show Calls Try.prog 23 #[.pointer (some ⟨d, 0, none⟩), .int .i64 3, .string S] W fun e w' => e = .returned (.int .i64 0) ∧ DiskOn B w' d (ex1 Z S) ∧ Below B W w' from by
    have h := Write.on B d (ex0 Z) 3 S W hD hb (by show (0:Nat) ≤ 100000; omega)
    rw [ex_write Z S hS] at h
    exact h))
  have hR1 := hid (fun (W : World) (d : Nat) (Z S : ByteArray) (hD : DiskOn B W d (ex1 Z S)) => (show Calls Try.prog 24 #[.pointer (some ⟨d, 0, none⟩), .int .i64 3] W fun e w' => e = .returned (.tuple #[.string S, .int .i64 0]) ∧ W = w' from by
    have h := Read.calls _ d (ex1 Z S) 3 W hD
    rw [ex_read1 Z S] at h
    exact h))
  have hR2 := hid (fun (W : World) (d : Nat) (Z S : ByteArray) (hD : DiskOn B W d (ex2 Z S)) => (show Calls Try.prog 24 #[.pointer (some ⟨d, 0, none⟩), .int .i64 3] W fun e w' => e = .returned (.tuple #[.string Z, .int .i64 0]) ∧ W = w' from by
    have h := Read.calls _ d (ex2 Z S) 3 W hD
    rw [ex_read2 Z S] at h
    exact h))
  have hC := hid (fun (W : World) (d : Nat) (Z S : ByteArray) (hD : DiskOn B W d (ex1 Z S)) (hb : B ≤ W.heap.size) => (show Calls Try.prog 28 #[.pointer (some ⟨d, 0, none⟩), .slice none 0 0] W fun e w' => e = .returned (.tuple #[]) ∧ DiskOn B w' d (ex2 Z S) ∧ Below B W w' from
    Crash.on B d (ex1 Z S) none 0 [] W hD hb (RowA.nil _ _ _) (by show (1:Nat) ≤ 100000; omega)))
  have Ny1 := Aside0.mk hy1
  have Ny2 := Aside0.mk hy2
  clear hy1 hy2
  go_enter Try.func20, Try.ntmps20
  (try dsimp only [List.append])
  go_upto_region 5 with (first | (with_reducible refine Calls.mono (hN.out _ (Nat.le_of_eq hB.out)) ?_; rintro e w1 ⟨d, rfl, hD, hb1⟩; replace hD := hid hD; replace hb1 := hid hb1) | (with_reducible refine Calls.mono (hN7.out _) ?_; rintro e w2 ⟨rfl, rfl⟩))
  replace hb1 : Hid (Below B w w1) := hid (by rw [hB.out]; exact hb1.out)
  have hl1 : Hid (B ≤ w1.heap.size) := hid (Nat.le_trans (Nat.le_of_eq hB.out) hb1.out.size)
  go_upto_region 6 with (first | ((with_reducible refine gate_dst (N := 25) rfl ?_); refine Kd.R_make (Kd.int .u8) _ 5 rfl (N := 25) rfl 35 _ _ rfl 255 rfl rfl Try.underlying35 (.int .u8 0) 1 F.info5 rfl (by decide) (by omega) 0 (ok := fun _ => True) (okp := fun _ => True) rfl (fun _ hk => hk) trivial (by omega) (by omega) (Below.refl _ _) (Nat.le_refl _) ?_; intro v1 w3 ho hb hg_ hnew_; clear hg_ hnew_; simp only [Int.reduceToNat] at ho; rw [← Ny1.out] at ho; have hcv1 := own_string (P := Try.prog) Try.underlying35 Try.underlying5 Try.underlying9 (Kd.own_of_R ho); clear ho; replace hb := hid hb))
  clear hcv1 hq
  replace hD := hid (hD.out.below hb.out)
  replace hb : Hid (Below B w w3) := hid (Below.trans hb1.out (hb.out.mono hl1.out))
  have hl3 : Hid (B ≤ w3.heap.size) := hid (Nat.le_trans (Nat.le_of_eq hB.out) hb.out.size)
  generalize strOfNums y1 ++ { data := #[120] } = S at *
  go_upto_region 7 with (first | (with_reducible refine Calls.mono (hW.out _ _ _ _ hs1.out hD.out hl3.out) ?_; rintro e w4 ⟨rfl, hD4, hb4⟩; replace hD4 := hid hD4; replace hb4 := hid hb4))
  replace hb4 : Hid (Below B w w4) := hid (Below.trans hb.out hb4.out)
  have hl4 : Hid (B ≤ w4.heap.size) := hid (Nat.le_trans (Nat.le_of_eq hB.out) hb4.out.size)
  go_upto_region 9 with (first | (with_reducible refine Calls.mono (hR1.out _ _ _ _ hD4.out) ?_; rintro e w5 ⟨rfl, rfl⟩) | (with_reducible refine Calls.mono (hC.out _ _ _ _ hD4.out hl4.out) ?_; rintro e w6 ⟨rfl, hD6, hb6⟩; replace hD6 := hid hD6; replace hb6 := hid hb6))
  replace hb6 : Hid (Below B w w6) := hid (Below.trans hb4.out hb6.out)
  have hl6 : Hid (B ≤ w6.heap.size) := hid (Nat.le_trans (Nat.le_of_eq hB.out) hb6.out.size)
  go_upto_region 10 with (first | (with_reducible refine Calls.mono (hR2.out _ _ _ _ hD6.out) ?_; rintro e w5 ⟨rfl, rfl⟩))
  go_wp2_with (first | ((with_reducible refine gate_dst (N := 64) rfl ?_); (try (refine gate_guard (by rfl) ?_; dsimp only)); refine Kd.R_make (Kd.int .u8) _ 5 rfl (N := 64) rfl 35 _ _ rfl 256 rfl rfl Try.underlying35 (.int .u8 0) 1 F.info5 rfl (by decide) (by omega) 0 (ok := fun _ => True) (okp := fun _ => True) rfl (fun _ hk => hk) trivial (by omega) (by omega) (Below.refl _ _) (Nat.le_refl _) ?_; intro v2 w8 ho hb8 hg_ hnew_; clear hg_ hnew_; simp only [Int.reduceToNat] at ho; rw [← Ny2.out] at ho; have hcv1 := own_string (P := Try.prog) Try.underlying35 Try.underlying5 Try.underlying9 (Kd.own_of_R ho); clear ho; replace hb8 := hid hb8))
  go_ret
  exact ⟨rfl, Below.trans hb6.out (hb8.out.mono hl6.out)⟩
end Go.Proofs.Ytnffhdlkkfphbaa.D
