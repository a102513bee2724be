/-
  The reader's number and text; a request without fields.
-/
import Derived.Test.YtnghbfegijnolaaPx3
import Derived.WalkSpells
import Derived.WalkLawsBesides
import Derived.RegionTactic
import Derived.ChangeAlike
import Derived.BigRegion
import Derived.Handy
import Derived.Lib.Hide
namespace Go.Proofs.Ytnghbfegijnolaa.A
set_option linter.unusedVariables false
set_option linter.unusedSimpArgs false
open Go.RowKit Go.Proofs.YtnghbfegijnolaaW.PrintWords Go.Proofs.YtnghbfegijnolaaW.PrintLast Go.Proofs.YtnghbfegijnolaaW.PrintMore
open Go.Lib (hid)
/-- The reader's block g; all else that lay there stays. -/
structure Rd (g : Nat) (b : ByteArray) (bad : Bool) (w W : World) : Prop where
  hx : W.heap[g]? = some (.cells #[.string b, .bool bad] 91 (0, 0))
  os : W.os = w.os
  tape : W.tape = w.tape
  output : W.output = w.output
  size : w.heap.size ≤ W.heap.size
  keep : ∀ i, i < w.heap.size → i ≠ g → W.heap[i]? = w.heap[i]?
theorem Rd.below {g : Nat} {b : ByteArray} {bad : Bool} {w W W' : World} (h : Rd g b bad w W) (hb : Below W.heap.size W W') : Rd g b bad w W' :=
  ⟨(hb.block g (blk_lt h.hx)).trans h.hx, hb.os.trans h.os, hb.tape.trans h.tape, hb.output.trans h.output, Nat.le_trans h.size hb.size, fun i hi hn => (hb.block i (Nat.lt_of_lt_of_le hi h.size)).trans (h.keep i hi hn)⟩
theorem Rd.drewN {g : Nat} {b : ByteArray} {bad : Bool} {w W : World} (h : Rd g b bad w W) (n : Nat) : Rd g b bad w (W.drewN n) := ⟨h.hx, h.os, h.tape, h.output, h.size, h.keep⟩
theorem Rd.set0 {g : Nat} {b : ByteArray} {bad : Bool} {w W : World} (h : Rd g b bad w W) (s : ByteArray) : Rd g s bad w (W.setCell ⟨g, 0, none⟩ (.string s)) :=
  ⟨blk_set h.hx 0 _, h.os, h.tape, h.output, by simpa using h.size, fun i hi hn => (Below.heap_setCell W ⟨g, 0, none⟩ _ i hn).trans (h.keep i hi hn)⟩
theorem Rd.set1 {g : Nat} {b : ByteArray} {bad : Bool} {w W : World} (h : Rd g b bad w W) (c : Bool) : Rd g b c w (W.setCell ⟨g, 1, none⟩ (.bool c)) :=
  ⟨blk_set h.hx 1 _, h.os, h.tape, h.output, by simpa using h.size, fun i hi hn => (Below.heap_setCell W ⟨g, 1, none⟩ _ i hn).trans (h.keep i hi hn)⟩
theorem Rd.done {g : Nat} {b : ByteArray} {bad : Bool} {w W : World} (h : Rd g b bad w W) (hg : w.heap.size ≤ g) : Below w.heap.size w W := ⟨h.os, h.tape, h.output, h.size, fun i hi => h.keep i hi (by omega)⟩
set_option maxHeartbeats 1000000 in
set_option maxRecDepth 100000 in
theorem rnum (k g : Nat) (b : ByteArray) (bad : Bool) (s r1 : Int) (r2 : ByteArray) (r3 : Int) (w0 w : World) (hT : P.num_Take.f k b s = some (r1, r2, r3)) (h : Rd g b bad w0 w) :
    Calls Try.prog 45 #[.pointer (some ⟨g, 0, none⟩), .int .i64 s] w fun e w' => e = .returned (.int .u64 r1) ∧ Rd g r2 (bad || (r3 != 0)) w0 w' := by
  have hC := hid (fun W => P.num_Take.calls k b s r1 r2 r3 W hT)
  replace h := hid h
  have c0 : w.cell? ⟨g, 0, none⟩ = some (.string b) := (blk_cell h.out.hx 0).trans rfl
  clear hT
  cases bad with
  | true =>
    go_enter Try.func45, Try.ntmps45
    go_upto_region 2 with (first | ((with_reducible refine Calls.mono (hC.out _) ?_); rintro e w1 ⟨rfl, nd, rfl⟩; replace h := hid (h.out.drewN nd)))
    generalize w.drewN nd = w1 at *
    have d0 : w1.cell? ⟨g, 0, none⟩ = some (.string b) := (blk_cell h.out.hx 0).trans rfl
    have d1 : w1.cell? ⟨g, 1, none⟩ = some (.bool true) := (blk_cell h.out.hx 1).trans rfl
    have f0 := blk_frozen h.out.hx 0
    have f1 := blk_frozen h.out.hx 1
    have hZ := hid ((h.out.set1 true).set0 r2)
    go_wp2_with fail
    go_ret
    exact ⟨rfl, hZ.out⟩
  | false =>
    rw [Bool.false_or]
    go_enter Try.func45, Try.ntmps45
    go_upto_region 2 with (first | ((with_reducible refine Calls.mono (hC.out _) ?_); rintro e w1 ⟨rfl, nd, rfl⟩; replace h := hid (h.out.drewN nd)))
    generalize w.drewN nd = w1 at *
    have d0 : w1.cell? ⟨g, 0, none⟩ = some (.string b) := (blk_cell h.out.hx 0).trans rfl
    have d1 : w1.cell? ⟨g, 1, none⟩ = some (.bool false) := (blk_cell h.out.hx 1).trans rfl
    have f0 := blk_frozen h.out.hx 0
    have f1 := blk_frozen h.out.hx 1
    have hZ := hid ((h.out.set1 (r3 != 0)).set0 r2)
    go_wp2_with fail
    go_ret
    exact ⟨rfl, hZ.out⟩
set_option maxHeartbeats 1000000 in
set_option maxRecDepth 100000 in
theorem rtext (g : Nat) (b : ByteArray) (bad : Bool) (r1 r2 : ByteArray) (r3 : Int) (w0 w : World) (hT : P.num_TakeText.f b = some (r1, r2, r3)) (h : Rd g b bad w0 w) :
    Calls Try.prog 46 #[.pointer (some ⟨g, 0, none⟩)] w fun e w' => e = .returned (.string r1) ∧ Rd g r2 (bad || (r3 != 0)) w0 w' := by
  have hC := hid (fun W => P.num_TakeText.calls b r1 r2 r3 W hT)
  replace h := hid h
  have c0 : w.cell? ⟨g, 0, none⟩ = some (.string b) := (blk_cell h.out.hx 0).trans rfl
  clear hT
  cases bad with
  | true =>
    go_enter Try.func46, Try.ntmps46
    go_upto_region 2 with (first | ((with_reducible refine Calls.mono (hC.out _) ?_); rintro e w1 ⟨rfl, nd, rfl⟩; replace h := hid (h.out.drewN nd)))
    generalize w.drewN nd = w1 at *
    have d0 : w1.cell? ⟨g, 0, none⟩ = some (.string b) := (blk_cell h.out.hx 0).trans rfl
    have d1 : w1.cell? ⟨g, 1, none⟩ = some (.bool true) := (blk_cell h.out.hx 1).trans rfl
    have f0 := blk_frozen h.out.hx 0
    have f1 := blk_frozen h.out.hx 1
    have hZ := hid ((h.out.set1 true).set0 r2)
    go_wp2_with fail
    go_ret
    exact ⟨rfl, hZ.out⟩
  | false =>
    rw [Bool.false_or]
    go_enter Try.func46, Try.ntmps46
    go_upto_region 2 with (first | ((with_reducible refine Calls.mono (hC.out _) ?_); rintro e w1 ⟨rfl, nd, rfl⟩; replace h := hid (h.out.drewN nd)))
    generalize w.drewN nd = w1 at *
    have d0 : w1.cell? ⟨g, 0, none⟩ = some (.string b) := (blk_cell h.out.hx 0).trans rfl
    have d1 : w1.cell? ⟨g, 1, none⟩ = some (.bool false) := (blk_cell h.out.hx 1).trans rfl
    have f0 := blk_frozen h.out.hx 0
    have f1 := blk_frozen h.out.hx 1
    have hZ := hid ((h.out.set1 (r3 != 0)).set0 r2)
    go_wp2_with fail
    go_ret
    exact ⟨rfl, hZ.out⟩
end Go.Proofs.Ytnghbfegijnolaa.A
