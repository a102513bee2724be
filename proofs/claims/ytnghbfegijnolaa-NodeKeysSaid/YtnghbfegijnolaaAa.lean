/-
  plain and Right at the chapter's example.
-/
import Derived.Test.YtnghbfegijnolaaA9
namespace Go.Proofs.Ytnghbfegijnolaa.A
set_option linter.unusedVariables false
set_option linter.unusedSimpArgs false
open Go.RowKit Go.Proofs.YtnghbfegijnolaaW.PrintWords Go.Proofs.YtnghbfegijnolaaW.PrintLast Go.Proofs.YtnghbfegijnolaaW.PrintMore
open Go.Lib (hid)
def exN : Nd := ⟨true, [7], [⟨#[97, 98, 99]⟩], []⟩
set_option maxHeartbeats 1000000 in
set_option maxRecDepth 100000 in
theorem plain_ex (v : Value) (w : World) (H : At w v exN) : Calls Try.prog 56 #[v] w fun e w' => e = .returned (.bool true) ∧ Below w.heap.size w w' := by
  obtain ⟨A1, c1, A2, c2, A3, c3, rfl, ⟨h1, l1⟩, ⟨h2, l2⟩, ⟨h3, l3⟩⟩ := H
  have HA : Hid (∀ W, Below w.heap.size w W → At W (.agg #[.bool true, .slice A1 1 c1, .slice A2 1 c2, .slice A3 0 c3]) exN) := hid (fun W (hb : Below w.heap.size w W) => At.mk_ (x := exN) (Kd.C_below h1 hb) l1 (Kd.C_below h2 hb) l2 (Kd.C_below h3 hb) l3)
  have hB := hid (below_alloc (Below.refl w.heap.size w) (.cells #[.bool true, .slice A1 1 c1, .slice A2 1 c2, .slice A3 0 c3] 29))
  have hx : Hid ((w.alloc (.cells #[.bool true, .slice A1 1 c1, .slice A2 1 c2, .slice A3 0 c3] 29)).heap[w.heap.size]? = some (.cells #[.bool true, .slice A1 1 c1, .slice A2 1 c2, .slice A3 0 c3] 29 (0, 0))) := hid Array.getElem?_push_size
  have HV := hid (fun W (hb : Below w.heap.size w W) => contains_S [⟨#[97, 98, 99]⟩] A2 c2 W (Kd.C_below h2 hb) (by decide))
  have HK := hid (fun W (hb : Below w.heap.size w W) => contains_I [] A3 c3 W (Kd.C_below h3 hb) (by decide))
  clear h1 h2 h3 l1 l2 l3 HA
  go_enter Try.func56, Try.ntmps56
  go_upto_region 1 with fail
  change Code.wp _ _ _ _ (w.alloc (.cells #[.bool true, .slice A1 1 c1, .slice A2 1 c2, .slice A3 0 c3] 29))
  generalize w.alloc (.cells #[.bool true, .slice A1 1 c1, .slice A2 1 c2, .slice A3 0 c3] 29) = w1 at *
  have d0 : w1.cell? ⟨w.heap.size, 0, none⟩ = some (.bool true) := (blk_cell hx.out 0).trans rfl
  have d1 : w1.cell? ⟨w.heap.size, 1, none⟩ = some (.slice A1 1 c1) := (blk_cell hx.out 1).trans rfl
  have d2 : w1.cell? ⟨w.heap.size, 2, none⟩ = some (.slice A2 1 c2) := (blk_cell hx.out 2).trans rfl
  have d3 : w1.cell? ⟨w.heap.size, 3, none⟩ = some (.slice A3 0 c3) := (blk_cell hx.out 3).trans rfl
  go_wp2_with fail
  have E0 := hid d0
  have E1 := hid d1
  have E2 := hid d2
  have E3 := hid d3
  clear d0 d1 d2 d3
  go_loopg [33] 1 (fun g i wr => Hid (Below w1.heap.size w1 wr) ∧ ((g = 1 ∧ i = .int .i64 0) ∨ (g = 0 ∧ i = .int .i64 1)))
  case atStart => exact ⟨hid (Below.refl _ _), .inl ⟨rfl, rfl⟩⟩
  case round =>
    obtain ⟨hwr, hcase⟩ := hrel
    have d0 := pw_cell_below hwr.out E0.out
    have d1 := pw_cell_below hwr.out E1.out
    have d2 := pw_cell_below hwr.out E2.out
    have d3 := pw_cell_below hwr.out E3.out
    have hBw := hid (below_then hB.out hB.out.size hwr.out)
    rcases hcase with ⟨rfl, rfl⟩ | ⟨rfl, rfl⟩
    · go_wp2_with fail
      go_region
      go_wp2_with fail
      go_roundg 0
      case measure => omega
      case rel => exact ⟨hid (Below.trans hwr.out (below_drew (Below.refl _ _))), .inr ⟨rfl, rfl⟩⟩
    · go_wp2_with (first | ((with_reducible refine Calls.mono (HV.out _ hBw.out) ?_); rintro r w3 ⟨rfl, rfl⟩) | ((with_reducible refine Calls.mono (HK.out _ hBw.out) ?_); rintro r w4 ⟨rfl, rfl⟩))
      go_ret
      exact ⟨rfl, hBw.out⟩
set_option maxHeartbeats 1000000 in
set_option maxRecDepth 100000 in
theorem right_ex (v : Value) (w : World) (H : At w v exN) : Calls Try.prog 38 #[v] w fun e w' => e = .returned (.bool true) ∧ Below w.heap.size w w' := by
  obtain ⟨A1, c1, A2, c2, A3, c3, rfl, ⟨h1, l1⟩, ⟨h2, l2⟩, ⟨h3, l3⟩⟩ := H
  have HA : Hid (∀ W, Below w.heap.size w W → At W (.agg #[.bool true, .slice A1 1 c1, .slice A2 1 c2, .slice A3 0 c3]) exN) := hid (fun W (hb : Below w.heap.size w W) => At.mk_ (x := exN) (Kd.C_below h1 hb) l1 (Kd.C_below h2 hb) l2 (Kd.C_below h3 hb) l3)
  have hB := hid (below_alloc (Below.refl w.heap.size w) (.cells #[.bool true, .slice A1 1 c1, .slice A2 1 c2, .slice A3 0 c3] 29))
  have hx : Hid ((w.alloc (.cells #[.bool true, .slice A1 1 c1, .slice A2 1 c2, .slice A3 0 c3] 29)).heap[w.heap.size]? = some (.cells #[.bool true, .slice A1 1 c1, .slice A2 1 c2, .slice A3 0 c3] 29 (0, 0))) := hid Array.getElem?_push_size
  have HP := hid (fun v W H => plain_ex v W H)
  have HS := hid (fun v W H => size_walk exN v W H (by decide) (by decide) (by decide) (by decide))
  rw [show sizeF exN = 13 by decide] at HS
  clear h1 h2 h3 l1 l2 l3
  go_enter Try.func38, Try.ntmps38
  go_upto_region 1 with fail
  change Code.wp _ _ _ _ (w.alloc (.cells #[.bool true, .slice A1 1 c1, .slice A2 1 c2, .slice A3 0 c3] 29))
  generalize w.alloc (.cells #[.bool true, .slice A1 1 c1, .slice A2 1 c2, .slice A3 0 c3] 29) = w1 at *
  have d0 : w1.cell? ⟨w.heap.size, 0, none⟩ = some (.bool true) := (blk_cell hx.out 0).trans rfl
  have d1 : w1.cell? ⟨w.heap.size, 1, none⟩ = some (.slice A1 1 c1) := (blk_cell hx.out 1).trans rfl
  have d2 : w1.cell? ⟨w.heap.size, 2, none⟩ = some (.slice A2 1 c2) := (blk_cell hx.out 2).trans rfl
  have d3 : w1.cell? ⟨w.heap.size, 3, none⟩ = some (.slice A3 0 c3) := (blk_cell hx.out 3).trans rfl
  go_wp2_with (first | ((with_reducible refine Calls.mono (HP.out _ _ (HA.out _ hB.out)) ?_); rintro r w3 ⟨rfl, hb3⟩; replace hx := hid ((hb3.block _ (blk_lt hx.out)).trans hx.out); have q0 : w3.cell? ⟨w.heap.size, 0, none⟩ = some (.bool true) := (blk_cell hx.out 0).trans rfl; have q1 : w3.cell? ⟨w.heap.size, 1, none⟩ = some (.slice A1 1 c1) := (blk_cell hx.out 1).trans rfl; have q2 : w3.cell? ⟨w.heap.size, 2, none⟩ = some (.slice A2 1 c2) := (blk_cell hx.out 2).trans rfl; have q3 : w3.cell? ⟨w.heap.size, 3, none⟩ = some (.slice A3 0 c3) := (blk_cell hx.out 3).trans rfl; replace hB := hid (below_then hB.out hB.out.size hb3)) | ((with_reducible refine Calls.mono (HS.out _ _ (HA.out _ hB.out)) ?_); rintro r w4 ⟨rfl, hb4⟩; replace hB := hid (below_then hB.out hB.out.size hb4)))
  go_ret
  exact ⟨rfl, hB.out⟩
end Go.Proofs.Ytnghbfegijnolaa.A
