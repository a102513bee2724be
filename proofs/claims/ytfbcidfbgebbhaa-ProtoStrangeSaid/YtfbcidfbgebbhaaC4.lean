/-
  Right, at some requests.
-/
import Derived.Test.YtfbcidfbgebbhaaC2
namespace Go.Proofs.Ytfbcidfbgebbhaa.C
set_option linter.unusedVariables false
set_option linter.unusedSimpArgs false
open Go.RowKit Go.Proofs.YtfbcidfbgebbhaaW.PrintWords Go.Proofs.YtfbcidfbgebbhaaW.PrintLast Go.Proofs.YtfbcidfbgebbhaaW.PrintMore
open Go.Lib (hid)
set_option maxHeartbeats 1000000 in
set_option maxRecDepth 100000 in
theorem RightRenew (x0 : ByteArray) (x1 : Int) (q0 : Bool) (hq0 : q0 = ((x0.size : Int) == 29)) (q1 : Bool) (hq1 : q1 = (decide (0 ≤ x1) && decide (x1 ≤ 268435455))) (w : World) : Calls Try.prog 12 #[.iface 59 (.agg #[.string x0, .int .i64 x1])] w fun e w' => e = .returned (.bool (q0 && q1)) ∧ Below w.heap.size w w' := by
  obtain ⟨R, hR⟩ : ∃ R, R = (q0 && q1) := ⟨_, rfl⟩
  rw [← hR]
  replace hR := hid hR
  have hO := hid (fun W => ofRenew x0 x1 W)
  have hP := hid (fun b W => partsRenew b W)
  have H0 : Hid (∀ b W, W.heap[b]? = some (.cells #[.string x0, .int .i64 x1] 59 (0, 0)) → Calls Try.prog 114 #[.agg #[.pointer (some ⟨b, 0, none⟩)]] W fun e w' => e = .returned (.bool q0) ∧ Below W.heap.size W w') := hid (fun b W hf => (by rw [hq0]; exact handleR ⟨b, 0, none⟩ x0 W ((blk_cell hf 0).trans rfl)))
  have H1 : Hid (∀ b W, W.heap[b]? = some (.cells #[.string x0, .int .i64 x1] 59 (0, 0)) → Calls Try.prog 104 #[.agg #[.pointer (some ⟨b, 1, none⟩), .int .i64 4, .int .i64 0, .int .i64 268435455]] W fun e w' => e = .returned (.bool q1) ∧ Below W.heap.size W w') := hid (fun b W hf => numR ⟨b, 1, none⟩ x1 4 0 268435455 q1 hq1 W ((blk_cell hf 1).trans rfl))
  clear hq0 hq1
  go_enter Try.func12, Try.ntmps12
  go_upto_region 4 with (first | ((with_reducible refine Calls.mono (hO.out _) ?_); rintro e w1 ⟨b, rfl, hx, hb1⟩; replace hx := hid hx; replace hb1 := hid hb1))
  go_wp2_with (first | ((with_reducible refine Calls.mono (hP.out _ _) ?_); rintro e w2 ⟨c, rfl, hc, hb2⟩; replace hc := hid hc; replace hx := hid ((hb2.block b (blk_lt hx.out)).trans hx.out); replace hb2 := hid (below_then hb1.out hb1.out.size hb2)))
  go_loopg [17] 2 (fun g v wr => Hid (Below w2.heap.size w2 wr) ∧ ((g = 2 ∧ v = .int .i64 0) ∨ (g = 1 ∧ v = .int .i64 1 ∧ q0 = true) ∨ (g = 0 ∧ v = .int .i64 2 ∧ q0 = true ∧ q1 = true)))
  case atStart => exact ⟨hid (Below.refl _ _), .inl ⟨rfl, rfl⟩⟩
  case round =>
    obtain ⟨hbw, hcase⟩ := hrel
    have hc1 := hid ((hbw.out.block c (blk_lt hc.out)).trans hc.out)
    have hx1 := hid ((hbw.out.block b (blk_lt hx.out)).trans hx.out)
    have hbA := hid (below_then hb2.out hb2.out.size hbw.out)
    clear hO hP
    rcases hcase with ⟨rfl, rfl⟩ | ⟨rfl, rfl, e0⟩ | ⟨rfl, rfl, e0, e1⟩
    · have dd : wr.cell? ⟨c, 0, none⟩ = some (.iface 142 (.agg #[.pointer (some ⟨b, 0, none⟩)])) := (blk_cell hc1.out 0).trans rfl
      have hM := hid (H0.out b wr hx1.out)
      cases q0 with
      | false =>
        go_wp2_with (first | ((with_reducible refine Calls.mono hM.out ?_); rintro e w3 ⟨rfl, hb3⟩; replace hb3 := hid (below_then hbA.out hbA.out.size hb3)))
        go_ret
        exact ⟨by rw [hR.out]; simp [*], hb3.out⟩
      | true =>
        go_wp2_with (first | ((with_reducible refine Calls.mono hM.out ?_); rintro e w3 ⟨rfl, hb3⟩; replace hb3 := hid (below_then hbw.out hbw.out.size hb3)))
        go_roundg 1
        case measure => omega
        case rel => exact ⟨hb3, .inr (.inl ⟨by first | rfl | trivial, by first | rfl | trivial, by first | rfl | trivial⟩)⟩
    · have dd : wr.cell? ⟨c, 1, none⟩ = some (.iface 139 (.agg #[.pointer (some ⟨b, 1, none⟩), .int .i64 4, .int .i64 0, .int .i64 268435455])) := (blk_cell hc1.out 1).trans rfl
      have hM := hid (H1.out b wr hx1.out)
      cases q1 with
      | false =>
        go_wp2_with (first | ((with_reducible refine Calls.mono hM.out ?_); rintro e w3 ⟨rfl, hb3⟩; replace hb3 := hid (below_then hbA.out hbA.out.size hb3)))
        go_ret
        exact ⟨by rw [hR.out]; simp [*], hb3.out⟩
      | true =>
        go_wp2_with (first | ((with_reducible refine Calls.mono hM.out ?_); rintro e w3 ⟨rfl, hb3⟩; replace hb3 := hid (below_then hbw.out hbw.out.size hb3)))
        go_roundg 0
        case measure => omega
        case rel => exact ⟨hb3, .inr (.inr (⟨by first | rfl | trivial, by first | rfl | trivial, by first | exact e0 | trivial, by first | rfl | trivial⟩))⟩
    · go_wp2_with fail
      go_ret
      exact ⟨by rw [hR.out]; simp [*], hbA.out⟩
set_option maxHeartbeats 1000000 in
set_option maxRecDepth 100000 in
theorem RightValidate (x0 : ByteArray) (q0 : Bool) (hq0 : q0 = ((x0.size : Int) == 29)) (w : World) : Calls Try.prog 12 #[.iface 52 (.agg #[.string x0])] w fun e w' => e = .returned (.bool (q0)) ∧ Below w.heap.size w w' := by
  obtain ⟨R, hR⟩ : ∃ R, R = (q0) := ⟨_, rfl⟩
  rw [← hR]
  replace hR := hid hR
  have hO := hid (fun W => ofValidate x0 W)
  have hP := hid (fun b W => partsValidate b W)
  have H0 : Hid (∀ b W, W.heap[b]? = some (.cells #[.string x0] 52 (0, 0)) → Calls Try.prog 114 #[.agg #[.pointer (some ⟨b, 0, none⟩)]] W fun e w' => e = .returned (.bool q0) ∧ Below W.heap.size W w') := hid (fun b W hf => (by rw [hq0]; exact handleR ⟨b, 0, none⟩ x0 W ((blk_cell hf 0).trans rfl)))
  clear hq0
  go_enter Try.func12, Try.ntmps12
  go_upto_region 4 with (first | ((with_reducible refine Calls.mono (hO.out _) ?_); rintro e w1 ⟨b, rfl, hx, hb1⟩; replace hx := hid hx; replace hb1 := hid hb1))
  go_wp2_with (first | ((with_reducible refine Calls.mono (hP.out _ _) ?_); rintro e w2 ⟨c, rfl, hc, hb2⟩; replace hc := hid hc; replace hx := hid ((hb2.block b (blk_lt hx.out)).trans hx.out); replace hb2 := hid (below_then hb1.out hb1.out.size hb2)))
  go_loopg [17] 1 (fun g v wr => Hid (Below w2.heap.size w2 wr) ∧ ((g = 1 ∧ v = .int .i64 0) ∨ (g = 0 ∧ v = .int .i64 1 ∧ q0 = true)))
  case atStart => exact ⟨hid (Below.refl _ _), .inl ⟨rfl, rfl⟩⟩
  case round =>
    obtain ⟨hbw, hcase⟩ := hrel
    have hc1 := hid ((hbw.out.block c (blk_lt hc.out)).trans hc.out)
    have hx1 := hid ((hbw.out.block b (blk_lt hx.out)).trans hx.out)
    have hbA := hid (below_then hb2.out hb2.out.size hbw.out)
    clear hO hP
    rcases hcase with ⟨rfl, rfl⟩ | ⟨rfl, rfl, e0⟩
    · have dd : wr.cell? ⟨c, 0, none⟩ = some (.iface 142 (.agg #[.pointer (some ⟨b, 0, none⟩)])) := (blk_cell hc1.out 0).trans rfl
      have hM := hid (H0.out b wr hx1.out)
      cases q0 with
      | false =>
        go_wp2_with (first | ((with_reducible refine Calls.mono hM.out ?_); rintro e w3 ⟨rfl, hb3⟩; replace hb3 := hid (below_then hbA.out hbA.out.size hb3)))
        go_ret
        exact ⟨by rw [hR.out]; simp [*], hb3.out⟩
      | true =>
        go_wp2_with (first | ((with_reducible refine Calls.mono hM.out ?_); rintro e w3 ⟨rfl, hb3⟩; replace hb3 := hid (below_then hbw.out hbw.out.size hb3)))
        go_roundg 0
        case measure => omega
        case rel => exact ⟨hb3, .inr (⟨by first | rfl | trivial, by first | rfl | trivial, by first | rfl | trivial⟩)⟩
    · go_wp2_with fail
      go_ret
      exact ⟨by rw [hR.out]; simp [*], hbA.out⟩
set_option maxHeartbeats 1000000 in
set_option maxRecDepth 100000 in
theorem RightInvoke (x0 : ByteArray) (x1 : Int) (q0 : Bool) (hq0 : q0 = ((x0.size : Int) == 29)) (q1 : Bool) (hq1 : q1 = (decide (97 ≤ x1) && decide (x1 < 113))) (w : World) : Calls Try.prog 12 #[.iface 55 (.agg #[.string x0, .int .i32 x1])] w fun e w' => e = .returned (.bool (q0 && q1)) ∧ Below w.heap.size w w' := by
  obtain ⟨R, hR⟩ : ∃ R, R = (q0 && q1) := ⟨_, rfl⟩
  rw [← hR]
  replace hR := hid hR
  have hO := hid (fun W => ofInvoke x0 x1 W)
  have hP := hid (fun b W => partsInvoke b W)
  have H0 : Hid (∀ b W, W.heap[b]? = some (.cells #[.string x0, .int .i32 x1] 55 (0, 0)) → Calls Try.prog 114 #[.agg #[.pointer (some ⟨b, 0, none⟩)]] W fun e w' => e = .returned (.bool q0) ∧ Below W.heap.size W w') := hid (fun b W hf => (by rw [hq0]; exact handleR ⟨b, 0, none⟩ x0 W ((blk_cell hf 0).trans rfl)))
  have H1 : Hid (∀ b W, W.heap[b]? = some (.cells #[.string x0, .int .i32 x1] 55 (0, 0)) → Calls Try.prog 117 #[.agg #[.pointer (some ⟨b, 1, none⟩)]] W fun e w' => e = .returned (.bool q1) ∧ Below W.heap.size W w') := hid (fun b W hf => letterR ⟨b, 1, none⟩ x1 q1 hq1 W ((blk_cell hf 1).trans rfl))
  clear hq0 hq1
  go_enter Try.func12, Try.ntmps12
  go_upto_region 4 with (first | ((with_reducible refine Calls.mono (hO.out _) ?_); rintro e w1 ⟨b, rfl, hx, hb1⟩; replace hx := hid hx; replace hb1 := hid hb1))
  go_wp2_with (first | ((with_reducible refine Calls.mono (hP.out _ _) ?_); rintro e w2 ⟨c, rfl, hc, hb2⟩; replace hc := hid hc; replace hx := hid ((hb2.block b (blk_lt hx.out)).trans hx.out); replace hb2 := hid (below_then hb1.out hb1.out.size hb2)))
  go_loopg [17] 2 (fun g v wr => Hid (Below w2.heap.size w2 wr) ∧ ((g = 2 ∧ v = .int .i64 0) ∨ (g = 1 ∧ v = .int .i64 1 ∧ q0 = true) ∨ (g = 0 ∧ v = .int .i64 2 ∧ q0 = true ∧ q1 = true)))
  case atStart => exact ⟨hid (Below.refl _ _), .inl ⟨rfl, rfl⟩⟩
  case round =>
    obtain ⟨hbw, hcase⟩ := hrel
    have hc1 := hid ((hbw.out.block c (blk_lt hc.out)).trans hc.out)
    have hx1 := hid ((hbw.out.block b (blk_lt hx.out)).trans hx.out)
    have hbA := hid (below_then hb2.out hb2.out.size hbw.out)
    clear hO hP
    rcases hcase with ⟨rfl, rfl⟩ | ⟨rfl, rfl, e0⟩ | ⟨rfl, rfl, e0, e1⟩
    · have dd : wr.cell? ⟨c, 0, none⟩ = some (.iface 142 (.agg #[.pointer (some ⟨b, 0, none⟩)])) := (blk_cell hc1.out 0).trans rfl
      have hM := hid (H0.out b wr hx1.out)
      cases q0 with
      | false =>
        go_wp2_with (first | ((with_reducible refine Calls.mono hM.out ?_); rintro e w3 ⟨rfl, hb3⟩; replace hb3 := hid (below_then hbA.out hbA.out.size hb3)))
        go_ret
        exact ⟨by rw [hR.out]; simp [*], hb3.out⟩
      | true =>
        go_wp2_with (first | ((with_reducible refine Calls.mono hM.out ?_); rintro e w3 ⟨rfl, hb3⟩; replace hb3 := hid (below_then hbw.out hbw.out.size hb3)))
        go_roundg 1
        case measure => omega
        case rel => exact ⟨hb3, .inr (.inl ⟨by first | rfl | trivial, by first | rfl | trivial, by first | rfl | trivial⟩)⟩
    · have dd : wr.cell? ⟨c, 1, none⟩ = some (.iface 145 (.agg #[.pointer (some ⟨b, 1, none⟩)])) := (blk_cell hc1.out 1).trans rfl
      have hM := hid (H1.out b wr hx1.out)
      cases q1 with
      | false =>
        go_wp2_with (first | ((with_reducible refine Calls.mono hM.out ?_); rintro e w3 ⟨rfl, hb3⟩; replace hb3 := hid (below_then hbA.out hbA.out.size hb3)))
        go_ret
        exact ⟨by rw [hR.out]; simp [*], hb3.out⟩
      | true =>
        go_wp2_with (first | ((with_reducible refine Calls.mono hM.out ?_); rintro e w3 ⟨rfl, hb3⟩; replace hb3 := hid (below_then hbw.out hbw.out.size hb3)))
        go_roundg 0
        case measure => omega
        case rel => exact ⟨hb3, .inr (.inr (⟨by first | rfl | trivial, by first | rfl | trivial, by first | exact e0 | trivial, by first | rfl | trivial⟩))⟩
    · go_wp2_with fail
      go_ret
      exact ⟨by rw [hR.out]; simp [*], hbA.out⟩
set_option maxHeartbeats 1000000 in
set_option maxRecDepth 100000 in
theorem RightRevoke (x0 : ByteArray) (x1 : Bool) (q0 : Bool) (hq0 : q0 = ((x0.size : Int) == 29)) (q1 : Bool) (hq1 : q1 = true) (w : World) : Calls Try.prog 12 #[.iface 71 (.agg #[.string x0, .bool x1])] w fun e w' => e = .returned (.bool (q0 && q1)) ∧ Below w.heap.size w w' := by
  obtain ⟨R, hR⟩ : ∃ R, R = (q0 && q1) := ⟨_, rfl⟩
  rw [← hR]
  replace hR := hid hR
  have hO := hid (fun W => ofRevoke x0 x1 W)
  have hP := hid (fun b W => partsRevoke b W)
  have H0 : Hid (∀ b W, W.heap[b]? = some (.cells #[.string x0, .bool x1] 71 (0, 0)) → Calls Try.prog 114 #[.agg #[.pointer (some ⟨b, 0, none⟩)]] W fun e w' => e = .returned (.bool q0) ∧ Below W.heap.size W w') := hid (fun b W hf => (by rw [hq0]; exact handleR ⟨b, 0, none⟩ x0 W ((blk_cell hf 0).trans rfl)))
  have H1 : Hid (∀ b W, W.heap[b]? = some (.cells #[.string x0, .bool x1] 71 (0, 0)) → Calls Try.prog 122 #[.agg #[.pointer (some ⟨b, 1, none⟩)]] W fun e w' => e = .returned (.bool q1) ∧ Below W.heap.size W w') := hid (fun b W hf => (by rw [hq1]; exact boolR ⟨b, 1, none⟩ x1 W ((blk_cell hf 1).trans rfl)))
  clear hq0 hq1
  go_enter Try.func12, Try.ntmps12
  go_upto_region 4 with (first | ((with_reducible refine Calls.mono (hO.out _) ?_); rintro e w1 ⟨b, rfl, hx, hb1⟩; replace hx := hid hx; replace hb1 := hid hb1))
  go_wp2_with (first | ((with_reducible refine Calls.mono (hP.out _ _) ?_); rintro e w2 ⟨c, rfl, hc, hb2⟩; replace hc := hid hc; replace hx := hid ((hb2.block b (blk_lt hx.out)).trans hx.out); replace hb2 := hid (below_then hb1.out hb1.out.size hb2)))
  go_loopg [17] 2 (fun g v wr => Hid (Below w2.heap.size w2 wr) ∧ ((g = 2 ∧ v = .int .i64 0) ∨ (g = 1 ∧ v = .int .i64 1 ∧ q0 = true) ∨ (g = 0 ∧ v = .int .i64 2 ∧ q0 = true ∧ q1 = true)))
  case atStart => exact ⟨hid (Below.refl _ _), .inl ⟨rfl, rfl⟩⟩
  case round =>
    obtain ⟨hbw, hcase⟩ := hrel
    have hc1 := hid ((hbw.out.block c (blk_lt hc.out)).trans hc.out)
    have hx1 := hid ((hbw.out.block b (blk_lt hx.out)).trans hx.out)
    have hbA := hid (below_then hb2.out hb2.out.size hbw.out)
    clear hO hP
    rcases hcase with ⟨rfl, rfl⟩ | ⟨rfl, rfl, e0⟩ | ⟨rfl, rfl, e0, e1⟩
    · have dd : wr.cell? ⟨c, 0, none⟩ = some (.iface 142 (.agg #[.pointer (some ⟨b, 0, none⟩)])) := (blk_cell hc1.out 0).trans rfl
      have hM := hid (H0.out b wr hx1.out)
      cases q0 with
      | false =>
        go_wp2_with (first | ((with_reducible refine Calls.mono hM.out ?_); rintro e w3 ⟨rfl, hb3⟩; replace hb3 := hid (below_then hbA.out hbA.out.size hb3)))
        go_ret
        exact ⟨by rw [hR.out]; simp [*], hb3.out⟩
      | true =>
        go_wp2_with (first | ((with_reducible refine Calls.mono hM.out ?_); rintro e w3 ⟨rfl, hb3⟩; replace hb3 := hid (below_then hbw.out hbw.out.size hb3)))
        go_roundg 1
        case measure => omega
        case rel => exact ⟨hb3, .inr (.inl ⟨by first | rfl | trivial, by first | rfl | trivial, by first | rfl | trivial⟩)⟩
    · have dd : wr.cell? ⟨c, 1, none⟩ = some (.iface 148 (.agg #[.pointer (some ⟨b, 1, none⟩)])) := (blk_cell hc1.out 1).trans rfl
      have hM := hid (H1.out b wr hx1.out)
      cases q1 with
      | false =>
        go_wp2_with (first | ((with_reducible refine Calls.mono hM.out ?_); rintro e w3 ⟨rfl, hb3⟩; replace hb3 := hid (below_then hbA.out hbA.out.size hb3)))
        go_ret
        exact ⟨by rw [hR.out]; simp [*], hb3.out⟩
      | true =>
        go_wp2_with (first | ((with_reducible refine Calls.mono hM.out ?_); rintro e w3 ⟨rfl, hb3⟩; replace hb3 := hid (below_then hbw.out hbw.out.size hb3)))
        go_roundg 0
        case measure => omega
        case rel => exact ⟨hb3, .inr (.inr (⟨by first | rfl | trivial, by first | rfl | trivial, by first | exact e0 | trivial, by first | rfl | trivial⟩))⟩
    · go_wp2_with fail
      go_ret
      exact ⟨by rw [hR.out]; simp [*], hbA.out⟩
set_option maxHeartbeats 1000000 in
set_option maxRecDepth 100000 in
theorem RightDelete (x0 : ByteArray) (q0 : Bool) (hq0 : q0 = ((x0.size : Int) == 29)) (w : World) : Calls Try.prog 12 #[.iface 72 (.agg #[.string x0])] w fun e w' => e = .returned (.bool (q0)) ∧ Below w.heap.size w w' := by
  obtain ⟨R, hR⟩ : ∃ R, R = (q0) := ⟨_, rfl⟩
  rw [← hR]
  replace hR := hid hR
  have hO := hid (fun W => ofDelete x0 W)
  have hP := hid (fun b W => partsDelete b W)
  have H0 : Hid (∀ b W, W.heap[b]? = some (.cells #[.string x0] 72 (0, 0)) → Calls Try.prog 114 #[.agg #[.pointer (some ⟨b, 0, none⟩)]] W fun e w' => e = .returned (.bool q0) ∧ Below W.heap.size W w') := hid (fun b W hf => (by rw [hq0]; exact handleR ⟨b, 0, none⟩ x0 W ((blk_cell hf 0).trans rfl)))
  clear hq0
  go_enter Try.func12, Try.ntmps12
  go_upto_region 4 with (first | ((with_reducible refine Calls.mono (hO.out _) ?_); rintro e w1 ⟨b, rfl, hx, hb1⟩; replace hx := hid hx; replace hb1 := hid hb1))
  go_wp2_with (first | ((with_reducible refine Calls.mono (hP.out _ _) ?_); rintro e w2 ⟨c, rfl, hc, hb2⟩; replace hc := hid hc; replace hx := hid ((hb2.block b (blk_lt hx.out)).trans hx.out); replace hb2 := hid (below_then hb1.out hb1.out.size hb2)))
  go_loopg [17] 1 (fun g v wr => Hid (Below w2.heap.size w2 wr) ∧ ((g = 1 ∧ v = .int .i64 0) ∨ (g = 0 ∧ v = .int .i64 1 ∧ q0 = true)))
  case atStart => exact ⟨hid (Below.refl _ _), .inl ⟨rfl, rfl⟩⟩
  case round =>
    obtain ⟨hbw, hcase⟩ := hrel
    have hc1 := hid ((hbw.out.block c (blk_lt hc.out)).trans hc.out)
    have hx1 := hid ((hbw.out.block b (blk_lt hx.out)).trans hx.out)
    have hbA := hid (below_then hb2.out hb2.out.size hbw.out)
    clear hO hP
    rcases hcase with ⟨rfl, rfl⟩ | ⟨rfl, rfl, e0⟩
    · have dd : wr.cell? ⟨c, 0, none⟩ = some (.iface 142 (.agg #[.pointer (some ⟨b, 0, none⟩)])) := (blk_cell hc1.out 0).trans rfl
      have hM := hid (H0.out b wr hx1.out)
      cases q0 with
      | false =>
        go_wp2_with (first | ((with_reducible refine Calls.mono hM.out ?_); rintro e w3 ⟨rfl, hb3⟩; replace hb3 := hid (below_then hbA.out hbA.out.size hb3)))
        go_ret
        exact ⟨by rw [hR.out]; simp [*], hb3.out⟩
      | true =>
        go_wp2_with (first | ((with_reducible refine Calls.mono hM.out ?_); rintro e w3 ⟨rfl, hb3⟩; replace hb3 := hid (below_then hbw.out hbw.out.size hb3)))
        go_roundg 0
        case measure => omega
        case rel => exact ⟨hb3, .inr (⟨by first | rfl | trivial, by first | rfl | trivial, by first | rfl | trivial⟩)⟩
    · go_wp2_with fail
      go_ret
      exact ⟨by rw [hR.out]; simp [*], hbA.out⟩
end Go.Proofs.Ytfbcidfbgebbhaa.C
