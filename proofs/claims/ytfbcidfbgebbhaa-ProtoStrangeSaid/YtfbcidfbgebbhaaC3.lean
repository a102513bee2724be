/-
  Right, at some requests.
-/
import Derived.Test.YtfbcidfbgebbhaaC2
namespace Go.Proofs.Ytfbcidfbgebbhaa.C
set_option linter.unusedVariables false
set_option linter.unusedSimpArgs false
open Go.RowKit Go.Proofs.YtfbcidfbgebbhaaW.PrintWords Go.Proofs.YtfbcidfbgebbhaaW.PrintLast Go.Proofs.YtfbcidfbgebbhaaW.PrintMore
open Go.Lib (hid)
set_option maxHeartbeats 1000000 in
set_option maxRecDepth 100000 in
theorem RightHello (x0 : ByteArray) (q0 : Bool) (hq0 : R.Right.f x0 = some q0) (w : World) : Calls Try.prog 12 #[.iface 61 (.agg #[.string x0])] w fun e w' => e = .returned (.bool (q0)) ∧ Below w.heap.size w w' := by
  obtain ⟨R, hR⟩ : ∃ R, R = (q0) := ⟨_, rfl⟩
  rw [← hR]
  replace hR := hid hR
  have hO := hid (fun W => ofHello x0 W)
  have hP := hid (fun b W => partsHello b W)
  have H0 : Hid (∀ b W, W.heap[b]? = some (.cells #[.string x0] 61 (0, 0)) → Calls Try.prog 98 #[.agg #[.pointer (some ⟨b, 0, none⟩)]] W fun e w' => e = .returned (.bool q0) ∧ Below W.heap.size W w') := hid (fun b W hf => nameR ⟨b, 0, none⟩ x0 q0 hq0 W ((blk_cell hf 0).trans rfl))
  clear hq0
  go_enter Try.func12, Try.ntmps12
  go_upto_region 4 with (first | ((with_reducible refine Calls.mono (hO.out _) ?_); rintro e w1 ⟨b, rfl, hx, hb1⟩; replace hx := hid hx; replace hb1 := hid hb1))
  go_wp2_with (first | ((with_reducible refine Calls.mono (hP.out _ _) ?_); rintro e w2 ⟨c, rfl, hc, hb2⟩; replace hc := hid hc; replace hx := hid ((hb2.block b (blk_lt hx.out)).trans hx.out); replace hb2 := hid (below_then hb1.out hb1.out.size hb2)))
  go_loopg [17] 1 (fun g v wr => Hid (Below w2.heap.size w2 wr) ∧ ((g = 1 ∧ v = .int .i64 0) ∨ (g = 0 ∧ v = .int .i64 1 ∧ q0 = true)))
  case atStart => exact ⟨hid (Below.refl _ _), .inl ⟨rfl, rfl⟩⟩
  case round =>
    obtain ⟨hbw, hcase⟩ := hrel
    have hc1 := hid ((hbw.out.block c (blk_lt hc.out)).trans hc.out)
    have hx1 := hid ((hbw.out.block b (blk_lt hx.out)).trans hx.out)
    have hbA := hid (below_then hb2.out hb2.out.size hbw.out)
    clear hO hP
    rcases hcase with ⟨rfl, rfl⟩ | ⟨rfl, rfl, e0⟩
    · have dd : wr.cell? ⟨c, 0, none⟩ = some (.iface 135 (.agg #[.pointer (some ⟨b, 0, none⟩)])) := (blk_cell hc1.out 0).trans rfl
      have hM := hid (H0.out b wr hx1.out)
      cases q0 with
      | false =>
        go_wp2_with (first | ((with_reducible refine Calls.mono hM.out ?_); rintro e w3 ⟨rfl, hb3⟩; replace hb3 := hid (below_then hbA.out hbA.out.size hb3)))
        go_ret
        exact ⟨by rw [hR.out]; simp [*], hb3.out⟩
      | true =>
        go_wp2_with (first | ((with_reducible refine Calls.mono hM.out ?_); rintro e w3 ⟨rfl, hb3⟩; replace hb3 := hid (below_then hbw.out hbw.out.size hb3)))
        go_roundg 0
        case measure => omega
        case rel => exact ⟨hb3, .inr (⟨by first | rfl | trivial, by first | rfl | trivial, by first | rfl | trivial⟩)⟩
    · go_wp2_with fail
      go_ret
      exact ⟨by rw [hR.out]; simp [*], hbA.out⟩
set_option maxHeartbeats 1000000 in
set_option maxRecDepth 100000 in
theorem RightRegister (x0 : ByteArray) (x1 : Int) (q0 : Bool) (hq0 : R.Right.f x0 = some q0) (q1 : Bool) (hq1 : q1 = (decide (0 ≤ x1) && decide (x1 ≤ 1000))) (w : World) : Calls Try.prog 12 #[.iface 48 (.agg #[.string x0, .int .i64 x1])] w fun e w' => e = .returned (.bool (q0 && q1)) ∧ Below w.heap.size w w' := by
  obtain ⟨R, hR⟩ : ∃ R, R = (q0 && q1) := ⟨_, rfl⟩
  rw [← hR]
  replace hR := hid hR
  have hO := hid (fun W => ofRegister x0 x1 W)
  have hP := hid (fun b W => partsRegister b W)
  have H0 : Hid (∀ b W, W.heap[b]? = some (.cells #[.string x0, .int .i64 x1] 48 (0, 0)) → Calls Try.prog 98 #[.agg #[.pointer (some ⟨b, 0, none⟩)]] W fun e w' => e = .returned (.bool q0) ∧ Below W.heap.size W w') := hid (fun b W hf => nameR ⟨b, 0, none⟩ x0 q0 hq0 W ((blk_cell hf 0).trans rfl))
  have H1 : Hid (∀ b W, W.heap[b]? = some (.cells #[.string x0, .int .i64 x1] 48 (0, 0)) → Calls Try.prog 104 #[.agg #[.pointer (some ⟨b, 1, none⟩), .int .i64 2, .int .i64 0, .int .i64 1000]] W fun e w' => e = .returned (.bool q1) ∧ Below W.heap.size W w') := hid (fun b W hf => numR ⟨b, 1, none⟩ x1 2 0 1000 q1 hq1 W ((blk_cell hf 1).trans rfl))
  clear hq0 hq1
  go_enter Try.func12, Try.ntmps12
  go_upto_region 4 with (first | ((with_reducible refine Calls.mono (hO.out _) ?_); rintro e w1 ⟨b, rfl, hx, hb1⟩; replace hx := hid hx; replace hb1 := hid hb1))
  go_wp2_with (first | ((with_reducible refine Calls.mono (hP.out _ _) ?_); rintro e w2 ⟨c, rfl, hc, hb2⟩; replace hc := hid hc; replace hx := hid ((hb2.block b (blk_lt hx.out)).trans hx.out); replace hb2 := hid (below_then hb1.out hb1.out.size hb2)))
  go_loopg [17] 2 (fun g v wr => Hid (Below w2.heap.size w2 wr) ∧ ((g = 2 ∧ v = .int .i64 0) ∨ (g = 1 ∧ v = .int .i64 1 ∧ q0 = true) ∨ (g = 0 ∧ v = .int .i64 2 ∧ q0 = true ∧ q1 = true)))
  case atStart => exact ⟨hid (Below.refl _ _), .inl ⟨rfl, rfl⟩⟩
  case round =>
    obtain ⟨hbw, hcase⟩ := hrel
    have hc1 := hid ((hbw.out.block c (blk_lt hc.out)).trans hc.out)
    have hx1 := hid ((hbw.out.block b (blk_lt hx.out)).trans hx.out)
    have hbA := hid (below_then hb2.out hb2.out.size hbw.out)
    clear hO hP
    rcases hcase with ⟨rfl, rfl⟩ | ⟨rfl, rfl, e0⟩ | ⟨rfl, rfl, e0, e1⟩
    · have dd : wr.cell? ⟨c, 0, none⟩ = some (.iface 135 (.agg #[.pointer (some ⟨b, 0, none⟩)])) := (blk_cell hc1.out 0).trans rfl
      have hM := hid (H0.out b wr hx1.out)
      cases q0 with
      | false =>
        go_wp2_with (first | ((with_reducible refine Calls.mono hM.out ?_); rintro e w3 ⟨rfl, hb3⟩; replace hb3 := hid (below_then hbA.out hbA.out.size hb3)))
        go_ret
        exact ⟨by rw [hR.out]; simp [*], hb3.out⟩
      | true =>
        go_wp2_with (first | ((with_reducible refine Calls.mono hM.out ?_); rintro e w3 ⟨rfl, hb3⟩; replace hb3 := hid (below_then hbw.out hbw.out.size hb3)))
        go_roundg 1
        case measure => omega
        case rel => exact ⟨hb3, .inr (.inl ⟨by first | rfl | trivial, by first | rfl | trivial, by first | rfl | trivial⟩)⟩
    · have dd : wr.cell? ⟨c, 1, none⟩ = some (.iface 139 (.agg #[.pointer (some ⟨b, 1, none⟩), .int .i64 2, .int .i64 0, .int .i64 1000])) := (blk_cell hc1.out 1).trans rfl
      have hM := hid (H1.out b wr hx1.out)
      cases q1 with
      | false =>
        go_wp2_with (first | ((with_reducible refine Calls.mono hM.out ?_); rintro e w3 ⟨rfl, hb3⟩; replace hb3 := hid (below_then hbA.out hbA.out.size hb3)))
        go_ret
        exact ⟨by rw [hR.out]; simp [*], hb3.out⟩
      | true =>
        go_wp2_with (first | ((with_reducible refine Calls.mono hM.out ?_); rintro e w3 ⟨rfl, hb3⟩; replace hb3 := hid (below_then hbw.out hbw.out.size hb3)))
        go_roundg 0
        case measure => omega
        case rel => exact ⟨hb3, .inr (.inr (⟨by first | rfl | trivial, by first | rfl | trivial, by first | exact e0 | trivial, by first | rfl | trivial⟩))⟩
    · go_wp2_with fail
      go_ret
      exact ⟨by rw [hR.out]; simp [*], hbA.out⟩
set_option maxHeartbeats 1000000 in
set_option maxRecDepth 100000 in
theorem RightMint (x0 : Int) (x1 : Int) (x2 : Int) (x3 : Int) (q0 : Bool) (hq0 : q0 = (decide (1 ≤ x0) && decide (x0 ≤ 16777215))) (q1 : Bool) (hq1 : Q.rights_Sub.f x1 x1 = some q1) (q2 : Bool) (hq2 : q2 = (decide (0 ≤ x2) && decide (x2 ≤ 4294967295))) (q3 : Bool) (hq3 : q3 = (decide (0 ≤ x3) && decide (x3 ≤ 268435455))) (w : World) : Calls Try.prog 12 #[.iface 50 (.agg #[.int .i64 x0, .int .i64 x1, .int .i64 x2, .int .i64 x3])] w fun e w' => e = .returned (.bool (q0 && q1 && q2 && q3)) ∧ Below w.heap.size w w' := by
  obtain ⟨R, hR⟩ : ∃ R, R = (q0 && q1 && q2 && q3) := ⟨_, rfl⟩
  rw [← hR]
  replace hR := hid hR
  have hO := hid (fun W => ofMint x0 x1 x2 x3 W)
  have hP := hid (fun b W => partsMint b W)
  have H0 : Hid (∀ b W, W.heap[b]? = some (.cells #[.int .i64 x0, .int .i64 x1, .int .i64 x2, .int .i64 x3] 50 (0, 0)) → Calls Try.prog 104 #[.agg #[.pointer (some ⟨b, 0, none⟩), .int .i64 3, .int .i64 1, .int .i64 16777215]] W fun e w' => e = .returned (.bool q0) ∧ Below W.heap.size W w') := hid (fun b W hf => numR ⟨b, 0, none⟩ x0 3 1 16777215 q0 hq0 W ((blk_cell hf 0).trans rfl))
  have H1 : Hid (∀ b W, W.heap[b]? = some (.cells #[.int .i64 x0, .int .i64 x1, .int .i64 x2, .int .i64 x3] 50 (0, 0)) → Calls Try.prog 107 #[.agg #[.pointer (some ⟨b, 1, none⟩)]] W fun e w' => e = .returned (.bool q1) ∧ Below W.heap.size W w') := hid (fun b W hf => maskR ⟨b, 1, none⟩ x1 q1 hq1 W ((blk_cell hf 1).trans rfl))
  have H2 : Hid (∀ b W, W.heap[b]? = some (.cells #[.int .i64 x0, .int .i64 x1, .int .i64 x2, .int .i64 x3] 50 (0, 0)) → Calls Try.prog 104 #[.agg #[.pointer (some ⟨b, 2, none⟩), .int .i64 4, .int .i64 0, .int .i64 4294967295]] W fun e w' => e = .returned (.bool q2) ∧ Below W.heap.size W w') := hid (fun b W hf => numR ⟨b, 2, none⟩ x2 4 0 4294967295 q2 hq2 W ((blk_cell hf 2).trans rfl))
  have H3 : Hid (∀ b W, W.heap[b]? = some (.cells #[.int .i64 x0, .int .i64 x1, .int .i64 x2, .int .i64 x3] 50 (0, 0)) → Calls Try.prog 104 #[.agg #[.pointer (some ⟨b, 3, none⟩), .int .i64 4, .int .i64 0, .int .i64 268435455]] W fun e w' => e = .returned (.bool q3) ∧ Below W.heap.size W w') := hid (fun b W hf => numR ⟨b, 3, none⟩ x3 4 0 268435455 q3 hq3 W ((blk_cell hf 3).trans rfl))
  clear hq0 hq1 hq2 hq3
  go_enter Try.func12, Try.ntmps12
  go_upto_region 4 with (first | ((with_reducible refine Calls.mono (hO.out _) ?_); rintro e w1 ⟨b, rfl, hx, hb1⟩; replace hx := hid hx; replace hb1 := hid hb1))
  go_wp2_with (first | ((with_reducible refine Calls.mono (hP.out _ _) ?_); rintro e w2 ⟨c, rfl, hc, hb2⟩; replace hc := hid hc; replace hx := hid ((hb2.block b (blk_lt hx.out)).trans hx.out); replace hb2 := hid (below_then hb1.out hb1.out.size hb2)))
  go_loopg [17] 4 (fun g v wr => Hid (Below w2.heap.size w2 wr) ∧ ((g = 4 ∧ v = .int .i64 0) ∨ (g = 3 ∧ v = .int .i64 1 ∧ q0 = true) ∨ (g = 2 ∧ v = .int .i64 2 ∧ q0 = true ∧ q1 = true) ∨ (g = 1 ∧ v = .int .i64 3 ∧ q0 = true ∧ q1 = true ∧ q2 = true) ∨ (g = 0 ∧ v = .int .i64 4 ∧ q0 = true ∧ q1 = true ∧ q2 = true ∧ q3 = true)))
  case atStart => exact ⟨hid (Below.refl _ _), .inl ⟨rfl, rfl⟩⟩
  case round =>
    obtain ⟨hbw, hcase⟩ := hrel
    have hc1 := hid ((hbw.out.block c (blk_lt hc.out)).trans hc.out)
    have hx1 := hid ((hbw.out.block b (blk_lt hx.out)).trans hx.out)
    have hbA := hid (below_then hb2.out hb2.out.size hbw.out)
    clear hO hP
    rcases hcase with ⟨rfl, rfl⟩ | ⟨rfl, rfl, e0⟩ | ⟨rfl, rfl, e0, e1⟩ | ⟨rfl, rfl, e0, e1, e2⟩ | ⟨rfl, rfl, e0, e1, e2, e3⟩
    · have dd : wr.cell? ⟨c, 0, none⟩ = some (.iface 139 (.agg #[.pointer (some ⟨b, 0, none⟩), .int .i64 3, .int .i64 1, .int .i64 16777215])) := (blk_cell hc1.out 0).trans rfl
      have hM := hid (H0.out b wr hx1.out)
      cases q0 with
      | false =>
        go_wp2_with (first | ((with_reducible refine Calls.mono hM.out ?_); rintro e w3 ⟨rfl, hb3⟩; replace hb3 := hid (below_then hbA.out hbA.out.size hb3)))
        go_ret
        exact ⟨by rw [hR.out]; simp [*], hb3.out⟩
      | true =>
        go_wp2_with (first | ((with_reducible refine Calls.mono hM.out ?_); rintro e w3 ⟨rfl, hb3⟩; replace hb3 := hid (below_then hbw.out hbw.out.size hb3)))
        go_roundg 3
        case measure => omega
        case rel => exact ⟨hb3, .inr (.inl ⟨by first | rfl | trivial, by first | rfl | trivial, by first | rfl | trivial⟩)⟩
    · have dd : wr.cell? ⟨c, 1, none⟩ = some (.iface 141 (.agg #[.pointer (some ⟨b, 1, none⟩)])) := (blk_cell hc1.out 1).trans rfl
      have hM := hid (H1.out b wr hx1.out)
      cases q1 with
      | false =>
        go_wp2_with (first | ((with_reducible refine Calls.mono hM.out ?_); rintro e w3 ⟨rfl, hb3⟩; replace hb3 := hid (below_then hbA.out hbA.out.size hb3)))
        go_ret
        exact ⟨by rw [hR.out]; simp [*], hb3.out⟩
      | true =>
        go_wp2_with (first | ((with_reducible refine Calls.mono hM.out ?_); rintro e w3 ⟨rfl, hb3⟩; replace hb3 := hid (below_then hbw.out hbw.out.size hb3)))
        go_roundg 2
        case measure => omega
        case rel => exact ⟨hb3, .inr (.inr (.inl ⟨by first | rfl | trivial, by first | rfl | trivial, by first | exact e0 | trivial, by first | rfl | trivial⟩))⟩
    · have dd : wr.cell? ⟨c, 2, none⟩ = some (.iface 139 (.agg #[.pointer (some ⟨b, 2, none⟩), .int .i64 4, .int .i64 0, .int .i64 4294967295])) := (blk_cell hc1.out 2).trans rfl
      have hM := hid (H2.out b wr hx1.out)
      cases q2 with
      | false =>
        go_wp2_with (first | ((with_reducible refine Calls.mono hM.out ?_); rintro e w3 ⟨rfl, hb3⟩; replace hb3 := hid (below_then hbA.out hbA.out.size hb3)))
        go_ret
        exact ⟨by rw [hR.out]; simp [*], hb3.out⟩
      | true =>
        go_wp2_with (first | ((with_reducible refine Calls.mono hM.out ?_); rintro e w3 ⟨rfl, hb3⟩; replace hb3 := hid (below_then hbw.out hbw.out.size hb3)))
        go_roundg 1
        case measure => omega
        case rel => exact ⟨hb3, .inr (.inr (.inr (.inl ⟨by first | rfl | trivial, by first | rfl | trivial, by first | exact e0 | trivial, by first | exact e1 | trivial, by first | rfl | trivial⟩)))⟩
    · have dd : wr.cell? ⟨c, 3, none⟩ = some (.iface 139 (.agg #[.pointer (some ⟨b, 3, none⟩), .int .i64 4, .int .i64 0, .int .i64 268435455])) := (blk_cell hc1.out 3).trans rfl
      have hM := hid (H3.out b wr hx1.out)
      cases q3 with
      | false =>
        go_wp2_with (first | ((with_reducible refine Calls.mono hM.out ?_); rintro e w3 ⟨rfl, hb3⟩; replace hb3 := hid (below_then hbA.out hbA.out.size hb3)))
        go_ret
        exact ⟨by rw [hR.out]; simp [*], hb3.out⟩
      | true =>
        go_wp2_with (first | ((with_reducible refine Calls.mono hM.out ?_); rintro e w3 ⟨rfl, hb3⟩; replace hb3 := hid (below_then hbw.out hbw.out.size hb3)))
        go_roundg 0
        case measure => omega
        case rel => exact ⟨hb3, .inr (.inr (.inr (.inr (⟨by first | rfl | trivial, by first | rfl | trivial, by first | exact e0 | trivial, by first | exact e1 | trivial, by first | exact e2 | trivial, by first | rfl | trivial⟩))))⟩
    · go_wp2_with fail
      go_ret
      exact ⟨by rw [hR.out]; simp [*], hbA.out⟩
set_option maxHeartbeats 1000000 in
set_option maxRecDepth 100000 in
theorem RightDerive (x0 : ByteArray) (x1 : ByteArray) (x2 : Int) (x3 : Int) (x4 : Int) (q0 : Bool) (hq0 : q0 = ((x0.size : Int) == 29)) (q1 : Bool) (hq1 : R.Right.f x1 = some q1) (q2 : Bool) (hq2 : Q.rights_Sub.f x2 x2 = some q2) (q3 : Bool) (hq3 : q3 = (decide (0 ≤ x3) && decide (x3 ≤ 4294967295))) (q4 : Bool) (hq4 : q4 = (decide (0 ≤ x4) && decide (x4 ≤ 268435455))) (w : World) : Calls Try.prog 12 #[.iface 69 (.agg #[.string x0, .string x1, .int .i64 x2, .int .i64 x3, .int .i64 x4])] w fun e w' => e = .returned (.bool (q0 && q1 && q2 && q3 && q4)) ∧ Below w.heap.size w w' := by
  obtain ⟨R, hR⟩ : ∃ R, R = (q0 && q1 && q2 && q3 && q4) := ⟨_, rfl⟩
  rw [← hR]
  replace hR := hid hR
  have hO := hid (fun W => ofDerive x0 x1 x2 x3 x4 W)
  have hP := hid (fun b W => partsDerive b W)
  have H0 : Hid (∀ b W, W.heap[b]? = some (.cells #[.string x0, .string x1, .int .i64 x2, .int .i64 x3, .int .i64 x4] 69 (0, 0)) → Calls Try.prog 114 #[.agg #[.pointer (some ⟨b, 0, none⟩)]] W fun e w' => e = .returned (.bool q0) ∧ Below W.heap.size W w') := hid (fun b W hf => (by rw [hq0]; exact handleR ⟨b, 0, none⟩ x0 W ((blk_cell hf 0).trans rfl)))
  have H1 : Hid (∀ b W, W.heap[b]? = some (.cells #[.string x0, .string x1, .int .i64 x2, .int .i64 x3, .int .i64 x4] 69 (0, 0)) → Calls Try.prog 98 #[.agg #[.pointer (some ⟨b, 1, none⟩)]] W fun e w' => e = .returned (.bool q1) ∧ Below W.heap.size W w') := hid (fun b W hf => nameR ⟨b, 1, none⟩ x1 q1 hq1 W ((blk_cell hf 1).trans rfl))
  have H2 : Hid (∀ b W, W.heap[b]? = some (.cells #[.string x0, .string x1, .int .i64 x2, .int .i64 x3, .int .i64 x4] 69 (0, 0)) → Calls Try.prog 107 #[.agg #[.pointer (some ⟨b, 2, none⟩)]] W fun e w' => e = .returned (.bool q2) ∧ Below W.heap.size W w') := hid (fun b W hf => maskR ⟨b, 2, none⟩ x2 q2 hq2 W ((blk_cell hf 2).trans rfl))
  have H3 : Hid (∀ b W, W.heap[b]? = some (.cells #[.string x0, .string x1, .int .i64 x2, .int .i64 x3, .int .i64 x4] 69 (0, 0)) → Calls Try.prog 104 #[.agg #[.pointer (some ⟨b, 3, none⟩), .int .i64 4, .int .i64 0, .int .i64 4294967295]] W fun e w' => e = .returned (.bool q3) ∧ Below W.heap.size W w') := hid (fun b W hf => numR ⟨b, 3, none⟩ x3 4 0 4294967295 q3 hq3 W ((blk_cell hf 3).trans rfl))
  have H4 : Hid (∀ b W, W.heap[b]? = some (.cells #[.string x0, .string x1, .int .i64 x2, .int .i64 x3, .int .i64 x4] 69 (0, 0)) → Calls Try.prog 104 #[.agg #[.pointer (some ⟨b, 4, none⟩), .int .i64 4, .int .i64 0, .int .i64 268435455]] W fun e w' => e = .returned (.bool q4) ∧ Below W.heap.size W w') := hid (fun b W hf => numR ⟨b, 4, none⟩ x4 4 0 268435455 q4 hq4 W ((blk_cell hf 4).trans rfl))
  clear hq0 hq1 hq2 hq3 hq4
  go_enter Try.func12, Try.ntmps12
  go_upto_region 4 with (first | ((with_reducible refine Calls.mono (hO.out _) ?_); rintro e w1 ⟨b, rfl, hx, hb1⟩; replace hx := hid hx; replace hb1 := hid hb1))
  go_wp2_with (first | ((with_reducible refine Calls.mono (hP.out _ _) ?_); rintro e w2 ⟨c, rfl, hc, hb2⟩; replace hc := hid hc; replace hx := hid ((hb2.block b (blk_lt hx.out)).trans hx.out); replace hb2 := hid (below_then hb1.out hb1.out.size hb2)))
  go_loopg [17] 5 (fun g v wr => Hid (Below w2.heap.size w2 wr) ∧ ((g = 5 ∧ v = .int .i64 0) ∨ (g = 4 ∧ v = .int .i64 1 ∧ q0 = true) ∨ (g = 3 ∧ v = .int .i64 2 ∧ q0 = true ∧ q1 = true) ∨ (g = 2 ∧ v = .int .i64 3 ∧ q0 = true ∧ q1 = true ∧ q2 = true) ∨ (g = 1 ∧ v = .int .i64 4 ∧ q0 = true ∧ q1 = true ∧ q2 = true ∧ q3 = true) ∨ (g = 0 ∧ v = .int .i64 5 ∧ q0 = true ∧ q1 = true ∧ q2 = true ∧ q3 = true ∧ q4 = true)))
  case atStart => exact ⟨hid (Below.refl _ _), .inl ⟨rfl, rfl⟩⟩
  case round =>
    obtain ⟨hbw, hcase⟩ := hrel
    have hc1 := hid ((hbw.out.block c (blk_lt hc.out)).trans hc.out)
    have hx1 := hid ((hbw.out.block b (blk_lt hx.out)).trans hx.out)
    have hbA := hid (below_then hb2.out hb2.out.size hbw.out)
    clear hO hP
    rcases hcase with ⟨rfl, rfl⟩ | ⟨rfl, rfl, e0⟩ | ⟨rfl, rfl, e0, e1⟩ | ⟨rfl, rfl, e0, e1, e2⟩ | ⟨rfl, rfl, e0, e1, e2, e3⟩ | ⟨rfl, rfl, e0, e1, e2, e3, e4⟩
    · have dd : wr.cell? ⟨c, 0, none⟩ = some (.iface 142 (.agg #[.pointer (some ⟨b, 0, none⟩)])) := (blk_cell hc1.out 0).trans rfl
      have hM := hid (H0.out b wr hx1.out)
      cases q0 with
      | false =>
        go_wp2_with (first | ((with_reducible refine Calls.mono hM.out ?_); rintro e w3 ⟨rfl, hb3⟩; replace hb3 := hid (below_then hbA.out hbA.out.size hb3)))
        go_ret
        exact ⟨by rw [hR.out]; simp [*], hb3.out⟩
      | true =>
        go_wp2_with (first | ((with_reducible refine Calls.mono hM.out ?_); rintro e w3 ⟨rfl, hb3⟩; replace hb3 := hid (below_then hbw.out hbw.out.size hb3)))
        go_roundg 4
        case measure => omega
        case rel => exact ⟨hb3, .inr (.inl ⟨by first | rfl | trivial, by first | rfl | trivial, by first | rfl | trivial⟩)⟩
    · have dd : wr.cell? ⟨c, 1, none⟩ = some (.iface 135 (.agg #[.pointer (some ⟨b, 1, none⟩)])) := (blk_cell hc1.out 1).trans rfl
      have hM := hid (H1.out b wr hx1.out)
      cases q1 with
      | false =>
        go_wp2_with (first | ((with_reducible refine Calls.mono hM.out ?_); rintro e w3 ⟨rfl, hb3⟩; replace hb3 := hid (below_then hbA.out hbA.out.size hb3)))
        go_ret
        exact ⟨by rw [hR.out]; simp [*], hb3.out⟩
      | true =>
        go_wp2_with (first | ((with_reducible refine Calls.mono hM.out ?_); rintro e w3 ⟨rfl, hb3⟩; replace hb3 := hid (below_then hbw.out hbw.out.size hb3)))
        go_roundg 3
        case measure => omega
        case rel => exact ⟨hb3, .inr (.inr (.inl ⟨by first | rfl | trivial, by first | rfl | trivial, by first | exact e0 | trivial, by first | rfl | trivial⟩))⟩
    · have dd : wr.cell? ⟨c, 2, none⟩ = some (.iface 141 (.agg #[.pointer (some ⟨b, 2, none⟩)])) := (blk_cell hc1.out 2).trans rfl
      have hM := hid (H2.out b wr hx1.out)
      cases q2 with
      | false =>
        go_wp2_with (first | ((with_reducible refine Calls.mono hM.out ?_); rintro e w3 ⟨rfl, hb3⟩; replace hb3 := hid (below_then hbA.out hbA.out.size hb3)))
        go_ret
        exact ⟨by rw [hR.out]; simp [*], hb3.out⟩
      | true =>
        go_wp2_with (first | ((with_reducible refine Calls.mono hM.out ?_); rintro e w3 ⟨rfl, hb3⟩; replace hb3 := hid (below_then hbw.out hbw.out.size hb3)))
        go_roundg 2
        case measure => omega
        case rel => exact ⟨hb3, .inr (.inr (.inr (.inl ⟨by first | rfl | trivial, by first | rfl | trivial, by first | exact e0 | trivial, by first | exact e1 | trivial, by first | rfl | trivial⟩)))⟩
    · have dd : wr.cell? ⟨c, 3, none⟩ = some (.iface 139 (.agg #[.pointer (some ⟨b, 3, none⟩), .int .i64 4, .int .i64 0, .int .i64 4294967295])) := (blk_cell hc1.out 3).trans rfl
      have hM := hid (H3.out b wr hx1.out)
      cases q3 with
      | false =>
        go_wp2_with (first | ((with_reducible refine Calls.mono hM.out ?_); rintro e w3 ⟨rfl, hb3⟩; replace hb3 := hid (below_then hbA.out hbA.out.size hb3)))
        go_ret
        exact ⟨by rw [hR.out]; simp [*], hb3.out⟩
      | true =>
        go_wp2_with (first | ((with_reducible refine Calls.mono hM.out ?_); rintro e w3 ⟨rfl, hb3⟩; replace hb3 := hid (below_then hbw.out hbw.out.size hb3)))
        go_roundg 1
        case measure => omega
        case rel => exact ⟨hb3, .inr (.inr (.inr (.inr (.inl ⟨by first | rfl | trivial, by first | rfl | trivial, by first | exact e0 | trivial, by first | exact e1 | trivial, by first | exact e2 | trivial, by first | rfl | trivial⟩))))⟩
    · have dd : wr.cell? ⟨c, 4, none⟩ = some (.iface 139 (.agg #[.pointer (some ⟨b, 4, none⟩), .int .i64 4, .int .i64 0, .int .i64 268435455])) := (blk_cell hc1.out 4).trans rfl
      have hM := hid (H4.out b wr hx1.out)
      cases q4 with
      | false =>
        go_wp2_with (first | ((with_reducible refine Calls.mono hM.out ?_); rintro e w3 ⟨rfl, hb3⟩; replace hb3 := hid (below_then hbA.out hbA.out.size hb3)))
        go_ret
        exact ⟨by rw [hR.out]; simp [*], hb3.out⟩
      | true =>
        go_wp2_with (first | ((with_reducible refine Calls.mono hM.out ?_); rintro e w3 ⟨rfl, hb3⟩; replace hb3 := hid (below_then hbw.out hbw.out.size hb3)))
        go_roundg 0
        case measure => omega
        case rel => exact ⟨hb3, .inr (.inr (.inr (.inr (.inr (⟨by first | rfl | trivial, by first | rfl | trivial, by first | exact e0 | trivial, by first | exact e1 | trivial, by first | exact e2 | trivial, by first | exact e3 | trivial, by first | rfl | trivial⟩)))))⟩
    · go_wp2_with fail
      go_ret
      exact ⟨by rw [hR.out]; simp [*], hbA.out⟩
end Go.Proofs.Ytfbcidfbgebbhaa.C
