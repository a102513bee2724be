/-
  The walk of disk.New.
-/
import Derived.Test.YtnffhdlkkfphbaaD8
namespace Go.Proofs.Ytnffhdlkkfphbaa.D
set_option linter.unusedVariables false
set_option linter.unusedSimpArgs false
open Go.RowKit Go.Proofs.YtnffhdlkkfphbaaW.PrintWords Go.Proofs.YtnffhdlkkfphbaaW.PrintLast Go.Proofs.YtnffhdlkkfphbaaW.PrintMore
open Go.Lib (hid)
def zeros : ByteArray := ⟨(Lib.repeatL [0] 256).toArray⟩
theorem new_fin {F : Nat → Prop} (w3 : World) (b n : Nat) (Z : ByteArray) (hn : 0 < n ∧ n ≤ 1000) (hZ : Z.size ≤ 1000000000) (hR : RowK w3 b n n Z) (hb : F b) (hF : ∀ i, w3.heap.size ≤ i → F i) :
    DiskAt F ((w3.alloc (.map #[] 0)).alloc (.cells #[.slice (some ⟨b, 0, none⟩) n n, .map (some w3.heap.size), .slice none 0 0, .int .i64 (-1), .bool false] 80)) (w3.heap.size + 1) { now := List.replicate n Z, loose := [], fuse := -1, gone := false } := by
  have hz : (w3.alloc (.map #[] 0)).heap.size = w3.heap.size + 1 := by simp
  have hR2 : w3.heap[b]? = some (.cells ((List.replicate n Z).map Value.string).toArray 9 (0, 0)) := by
    refine hR.trans ?_
    rw [Nat.sub_self, List.replicate_zero, List.append_nil, List.map_replicate]
  refine ⟨b, w3.heap.size, .slice none 0 0, ?_, blk_alloc (blk_alloc hR2 _) _, (MapS.new w3).kept (Below.heap_alloc _ _ _ (by omega)), Kd.R_nil _ _ _ _ _, hF _ (by omega), hb, hF _ (Nat.le_refl _), by rw [List.length_replicate]; exact hn, ?_, ⟨(by decide : (-1 : Int) ≤ -1), (by decide : (-1 : Int) ≤ 9223372036854775807)⟩, fun p hp => absurd hp List.not_mem_nil⟩
  · rw [← hz, List.length_replicate]
    exact Array.getElem?_push_size
  · intro s hs
    rw [(List.mem_replicate.1 hs).2]
    exact hZ
set_option maxRecDepth 100000 in
theorem zeros_size : zeros.size = 256 := by
  show (Lib.repeatL [0] 256).length = 256
  decide +kernel
set_option maxRecDepth 100000 in
theorem New.ok (n : Nat) (hn : 8 ≤ n ∧ n ≤ 640) (w : World) :
    Calls Try.prog 21 #[.int .i64 (n : Int)] w fun e w' => ∃ d, e = .returned (.tuple #[.pointer (some ⟨d, 0, none⟩), .int .i64 0]) ∧ DiskAt (fun i => w.heap.size ≤ i) w' d { now := List.replicate n zeros, loose := [], fuse := -1, gone := false } ∧ Below w.heap.size w w' := by
  have hZ : Hid (zeros.size ≤ 1000000000) := hid (by rw [zeros_size]; omega)
  have hS : Hid (∀ W, Calls Try.prog 41 #[.string ⟨#[0]⟩, .int .i64 256] W fun e w' => e = .returned (.string zeros) ∧ Below W.heap.size W w') :=
    hid (fun W => Try.strings_Repeat ⟨#[0]⟩ 256 W (by decide) (by decide))
  generalize zeros = Z at *
  have hRp := hid (fun W1 : World => Repeat.calls W1.heap.size n Z (W1.alloc (.cells #[.string Z] 9)) Array.getElem?_push_size (by omega))
  have q1 : ¬ ((n : Int) < 8) := by omega
  have q2 : ¬ (640 < (n : Int)) := by omega
  have hmm := @run_makeMap Try.prog
  go_enter Try.func21, Try.ntmps21
  go_wp2_with (first | (refine Calls.mono (hS.out _) ?_; rintro e w1 ⟨rfl, hb1⟩; replace hb1 := hid hb1) | (refine Calls.mono (hRp.out _) ?_; rintro e w2 ⟨rfl, hr2, hb2⟩; replace hr2 := hid hr2; replace hb2 := hid hb2))
  have hs1 : (w1.alloc (.cells #[.string Z] 9)).heap.size = w1.heap.size + 1 := by simp
  rw [hs1] at hr2 hb2
  have hle1 := hb1.out.size
  have hle2 := hb2.out.size
  rw [hs1] at hle2
  have hbw : Below w.heap.size w w2 := Below.trans (Below.alloc hb1.out hle1 _) (hb2.out.mono (by omega))
  go_ret2
  exact ⟨_, rfl, new_fin w2 (w1.heap.size + 1) n Z (by omega) hZ.out hr2.out (by show w.heap.size ≤ w1.heap.size + 1; omega) (fun i hi => by show w.heap.size ≤ i; omega), Below.alloc (Below.alloc hbw (by omega) _) (by simp; omega) _⟩
end Go.Proofs.Ytnffhdlkkfphbaa.D
