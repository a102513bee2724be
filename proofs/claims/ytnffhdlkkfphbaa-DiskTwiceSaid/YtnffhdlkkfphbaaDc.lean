/-
  disk.New's refusal; a disk is moved along.
-/
import Derived.Test.YtnffhdlkkfphbaaDb
namespace Go.Proofs.Ytnffhdlkkfphbaa.D
set_option linter.unusedVariables false
set_option linter.unusedSimpArgs false
open Go.RowKit Go.Proofs.YtnffhdlkkfphbaaW.PrintWords Go.Proofs.YtnffhdlkkfphbaaW.PrintLast Go.Proofs.YtnffhdlkkfphbaaW.PrintMore
open Go.Lib (hid)
set_option maxRecDepth 100000 in
theorem New.no (n : Int) (hn : n < 8 ∨ 640 < n) (w : World) :
    Calls Try.prog 21 #[.int .i64 n] w fun e w' => e = .returned (.tuple #[.pointer none, .int .i64 1]) ∧ w = w' := by
  by_cases h : n < 8
  · clear hn
    go_enter Try.func21, Try.ntmps21
    go_wp2_with fail
    go_ret2
    exact ⟨rfl, rfl⟩
  · have h2 : 640 < n := by omega
    clear hn
    go_enter Try.func21, Try.ntmps21
    go_wp2_with fail
    go_ret2
    exact ⟨rfl, rfl⟩
/-- A disk of one's own stays as it is while others write beside it. -/
theorem DiskAt.moved {F : Nat → Prop} {w w' : World} {d : Nat} {st : St} (h : DiskAt F w d st) (hb : ∀ i, i < w.heap.size → F i → w'.heap[i]? = w.heap[i]?) : DiskAt F w' d st := by
  obtain ⟨gn, gm, ov, hd, hs, hm, ho, f1, f2, f3, r⟩ := h
  exact ⟨gn, gm, ov, (hb d (blk_lt hd) f1).trans hd, (hb gn (blk_lt hs) f2).trans hs, hm.kept (hb gm hm.lt f3), Kd.R_step ho (fun k hk hlt => hb k hlt hk), f1, f2, f3, r⟩
theorem DiskAt.below {F : Nat → Prop} {w w' : World} {d : Nat} {st : St} (h : DiskAt F w d st) (hb : Below w.heap.size w w') : DiskAt F w' d st := h.moved (fun i hi _ => hb.block i hi)
end Go.Proofs.Ytnffhdlkkfphbaa.D
