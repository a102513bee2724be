/-
  Encode, at some requests.
-/
import Derived.Test.YtfbcidfbgebbhaaC2
namespace Go.Proofs.Ytfbcidfbgebbhaa.C
set_option linter.unusedVariables false
set_option linter.unusedSimpArgs false
open Go.RowKit Go.Proofs.YtfbcidfbgebbhaaW.PrintWords Go.Proofs.YtfbcidfbgebbhaaW.PrintLast Go.Proofs.YtfbcidfbgebbhaaW.PrintMore
open Go.Lib (hid)
set_option maxHeartbeats 1000000 in
set_option maxRecDepth 100000 in
theorem OpMove (x0 : ByteArray) (x1 : ByteArray) (w : World) : Calls Try.prog 63 #[.agg #[.string x0, .string x1]] w fun e w' => e = .returned (.int .i64 10) ∧ Below w.heap.size w w' := by
  go_enter Try.func63, Try.ntmps63
  go_wp2_with fail
  go_ret
  exact ⟨rfl, by first | exact Below.refl _ _ | exact (Below.refl w.heap.size w).alloc (Nat.le_refl _) _⟩
set_option maxHeartbeats 1000000 in
set_option maxRecDepth 100000 in
theorem EncodeMove (id : Int) (x0 : ByteArray) (x1 : ByteArray) (t0 : ByteArray) (ht0 : x0 = t0) (t1 : ByteArray) (ht1 : x1 = t1) (n1 n2 n3 : ByteArray) (hI : P.proto_idRight.f id = some true) (hR : ∀ W : World, Calls Try.prog 12 #[.iface 74 (.agg #[.string x0, .string x1])] W fun e w' => e = .returned (.bool true) ∧ Below W.heap.size W w') (h1 : P.proto_number.f 40 1 1 = some n1) (h2 : P.proto_number.f 40 10 1 = some n2) (h3 : P.proto_number.f 40 id 4 = some n3) (hz : n1.size ≤ 100 ∧ n2.size ≤ 100 ∧ n3.size ≤ 100 ∧ t0.size ≤ 400 ∧ t1.size ≤ 400) (w : World) :
    Calls Try.prog 10 #[.int .i64 id, .iface 74 (.agg #[.string x0, .string x1])] w fun e w' => e = .returned (.tuple #[.string (n1 ++ n2 ++ n3 ++ t0 ++ t1), .int .i64 0]) ∧ Below w.heap.size w w' := by
  have hI := hid (fun W => P.proto_idRight.calls id true W hI)
  have hR := hid hR
  have hO := hid (fun W => ofMove x0 x1 W)
  have hOp := hid (fun W => OpMove x0 x1 W)
  have H1 := hid (fun W => P.proto_number.calls 40 1 1 n1 W h1)
  have H2 := hid (fun W => P.proto_number.calls 40 10 1 n2 W h2)
  have H3 := hid (fun W => P.proto_number.calls 40 id 4 n3 W h3)
  have hP := hid (fun b W => partsMove b W)
  have ha := req_74 (.agg #[.string x0, .string x1])
  have T0 : Hid (∀ b W, W.heap[b]? = some (.cells #[.string x0, .string x1] 74 (0, 0)) → Calls Try.prog 115 #[.agg #[.pointer (some ⟨b, 0, none⟩)]] W fun e w' => e = .returned (.string t0) ∧ Below W.heap.size W w') := hid (fun b W hf => (by subst ht0; exact handleW ⟨b, 0, none⟩ x0 W ((blk_cell hf 0).trans rfl)))
  have T1 : Hid (∀ b W, W.heap[b]? = some (.cells #[.string x0, .string x1] 74 (0, 0)) → Calls Try.prog 115 #[.agg #[.pointer (some ⟨b, 1, none⟩)]] W fun e w' => e = .returned (.string t1) ∧ Below W.heap.size W w') := hid (fun b W hf => (by subst ht1; exact handleW ⟨b, 1, none⟩ x1 W ((blk_cell hf 1).trans rfl)))
  have z1 : ¬ 9223372036854775807 < n1.size + n2.size := by omega
  have z2 : ¬ 9223372036854775807 < n1.size + n2.size + n3.size := by omega
  have z3 : ¬ 9223372036854775807 < (n1 ++ n2).size + n3.size := by rw [ByteArray.size_append]; omega
  obtain ⟨S0, hS0⟩ : ∃ S, S = n1 ++ n2 ++ n3 := ⟨_, rfl⟩
  have l0 : S0.size ≤ 300 := by rw [hS0]; (repeat rw [ByteArray.size_append]); omega
  obtain ⟨S1, hS1⟩ : ∃ S, S = S0 ++ t0 := ⟨_, rfl⟩
  have y0 : ¬ 9223372036854775807 < S0.size + t0.size := by omega
  have l1 : S1.size ≤ 700 := by rw [hS1, ByteArray.size_append]; omega
  obtain ⟨S2, hS2⟩ : ∃ S, S = S1 ++ t1 := ⟨_, rfl⟩
  have y1 : ¬ 9223372036854775807 < S1.size + t1.size := by omega
  have l2 : S2.size ≤ 1100 := by rw [hS2, ByteArray.size_append]; omega
  have hfin : S2 = n1 ++ n2 ++ n3 ++ t0 ++ t1 := by rw [hS2, hS1, hS0]
  replace hS0 := hid hS0
  replace hS1 := hid hS1
  replace hS2 := hid hS2
  rw [← hfin]
  clear hfin h1 h2 h3 hz l0 l1 l2
  clear ht0 ht1
  go_enter Try.func10, Try.ntmps10
  go_upto_region 4 with (first | ((with_reducible refine Calls.mono (hI.out _) ?_); rintro e w1 ⟨rfl, nd, rfl⟩) | ((with_reducible refine Calls.mono (hR.out _) ?_); rintro e w2 ⟨rfl, hb2⟩; replace hb2 := hid (Below.trans (pw_below_drewN (Below.refl w.heap.size w) nd) hb2)))
  go_upto_region 5 with (first | ((with_reducible refine Calls.mono (H1.out _) ?_); rintro e w3 ⟨rfl, hb3⟩; replace hb3 := hid (below_then hb2.out hb2.out.size hb3)) | ((with_reducible refine Calls.mono (hOp.out _) ?_); rintro e w4 ⟨rfl, hb4⟩; replace hb4 := hid (below_then hb3.out hb3.out.size hb4)) | ((with_reducible refine Calls.mono (H2.out _) ?_); rintro e w5 ⟨rfl, hb5⟩; replace hb5 := hid (below_then hb4.out hb4.out.size hb5)) | ((with_reducible refine Calls.mono (H3.out _) ?_); rintro e w6 ⟨rfl, hb6⟩; replace hb6 := hid (below_then hb5.out hb5.out.size hb6)))
  go_upto_region 6 with (first | ((with_reducible refine Calls.mono (hO.out _) ?_); rintro e w7 ⟨b, rfl, hx, hb7⟩; replace hx := hid hx; replace hb7 := hid (below_then hb6.out hb6.out.size hb7)))
  go_wp2_with (first | ((with_reducible refine Calls.mono (hP.out _ _) ?_); rintro e w8 ⟨c, rfl, hc, hb8⟩; replace hc := hid hc; replace hx := hid ((hb8.block b (blk_lt hx.out)).trans hx.out); replace hb8 := hid (below_then hb7.out hb7.out.size hb8)))
  go_loopg [7, 38] 2 (fun g v7 v wr => Hid (Below w8.heap.size w8 wr) ∧ ((g = 2 ∧ v7 = .string S0 ∧ v = .int .i64 0) ∨ (g = 1 ∧ v7 = .string S1 ∧ v = .int .i64 1) ∨ (g = 0 ∧ v7 = .string S2 ∧ v = .int .i64 2)))
  case atStart => exact ⟨hid (Below.refl _ _), .inl ⟨rfl, by rw [hS0.out], rfl⟩⟩
  case round =>
    obtain ⟨hbw, hcase⟩ := hrel
    have hc1 := hid ((hbw.out.block c (blk_lt hc.out)).trans hc.out)
    have hx1 := hid ((hbw.out.block b (blk_lt hx.out)).trans hx.out)
    have hbA := hid (below_then hb8.out hb8.out.size hbw.out)
    clear hI hR hO hOp H1 H2 H3 hP
    rcases hcase with ⟨rfl, rfl, rfl⟩ | ⟨rfl, rfl, rfl⟩ | ⟨rfl, rfl, rfl⟩
    · have dd : wr.cell? ⟨c, 0, none⟩ = some (.iface 142 (.agg #[.pointer (some ⟨b, 0, none⟩)])) := (blk_cell hc1.out 0).trans rfl
      have hM := hid (T0.out b wr hx1.out)
      go_wp2_with (first | ((with_reducible refine Calls.mono hM.out ?_); rintro e w9 ⟨rfl, hb9⟩; replace hb9 := hid (below_then hbw.out hbw.out.size hb9)))
      go_roundg 1
      case measure => omega
      case rel => exact ⟨hb9, .inr (.inl ⟨by first | rfl | trivial, by rw [hS1.out], by first | rfl | trivial⟩)⟩
    · have dd : wr.cell? ⟨c, 1, none⟩ = some (.iface 142 (.agg #[.pointer (some ⟨b, 1, none⟩)])) := (blk_cell hc1.out 1).trans rfl
      have hM := hid (T1.out b wr hx1.out)
      go_wp2_with (first | ((with_reducible refine Calls.mono hM.out ?_); rintro e w9 ⟨rfl, hb9⟩; replace hb9 := hid (below_then hbw.out hbw.out.size hb9)))
      go_roundg 0
      case measure => omega
      case rel => exact ⟨hb9, .inr (.inr (⟨by first | rfl | trivial, by rw [hS2.out], by first | rfl | trivial⟩))⟩
    · go_wp2_with fail
      go_ret2
      exact ⟨rfl, hbA.out⟩
set_option maxHeartbeats 1000000 in
set_option maxRecDepth 100000 in
theorem OpList (x0 : ByteArray) (x1 : Int) (x2 : Int) (w : World) : Calls Try.prog 49 #[.agg #[.string x0, .int .i64 x1, .int .i64 x2]] w fun e w' => e = .returned (.int .i64 11) ∧ Below w.heap.size w w' := by
  go_enter Try.func49, Try.ntmps49
  go_wp2_with fail
  go_ret
  exact ⟨rfl, by first | exact Below.refl _ _ | exact (Below.refl w.heap.size w).alloc (Nat.le_refl _) _⟩
set_option maxHeartbeats 1000000 in
set_option maxRecDepth 100000 in
theorem EncodeList (id : Int) (x0 : ByteArray) (x1 : Int) (x2 : Int) (t0 : ByteArray) (ht0 : x0 = t0) (t1 : ByteArray) (ht1 : P.proto_number.f 40 x1 3 = some t1) (t2 : ByteArray) (ht2 : P.proto_number.f 40 x2 1 = some t2) (n1 n2 n3 : ByteArray) (hI : P.proto_idRight.f id = some true) (hR : ∀ W : World, Calls Try.prog 12 #[.iface 57 (.agg #[.string x0, .int .i64 x1, .int .i64 x2])] W fun e w' => e = .returned (.bool true) ∧ Below W.heap.size W w') (h1 : P.proto_number.f 40 1 1 = some n1) (h2 : P.proto_number.f 40 11 1 = some n2) (h3 : P.proto_number.f 40 id 4 = some n3) (hz : n1.size ≤ 100 ∧ n2.size ≤ 100 ∧ n3.size ≤ 100 ∧ t0.size ≤ 400 ∧ t1.size ≤ 400 ∧ t2.size ≤ 400) (w : World) :
    Calls Try.prog 10 #[.int .i64 id, .iface 57 (.agg #[.string x0, .int .i64 x1, .int .i64 x2])] w fun e w' => e = .returned (.tuple #[.string (n1 ++ n2 ++ n3 ++ t0 ++ t1 ++ t2), .int .i64 0]) ∧ Below w.heap.size w w' := by
  have hI := hid (fun W => P.proto_idRight.calls id true W hI)
  have hR := hid hR
  have hO := hid (fun W => ofList x0 x1 x2 W)
  have hOp := hid (fun W => OpList x0 x1 x2 W)
  have H1 := hid (fun W => P.proto_number.calls 40 1 1 n1 W h1)
  have H2 := hid (fun W => P.proto_number.calls 40 11 1 n2 W h2)
  have H3 := hid (fun W => P.proto_number.calls 40 id 4 n3 W h3)
  have hP := hid (fun b W => partsList b W)
  have ha := req_57 (.agg #[.string x0, .int .i64 x1, .int .i64 x2])
  have T0 : Hid (∀ b W, W.heap[b]? = some (.cells #[.string x0, .int .i64 x1, .int .i64 x2] 57 (0, 0)) → Calls Try.prog 115 #[.agg #[.pointer (some ⟨b, 0, none⟩)]] W fun e w' => e = .returned (.string t0) ∧ Below W.heap.size W w') := hid (fun b W hf => (by subst ht0; exact handleW ⟨b, 0, none⟩ x0 W ((blk_cell hf 0).trans rfl)))
  have T1 : Hid (∀ b W, W.heap[b]? = some (.cells #[.string x0, .int .i64 x1, .int .i64 x2] 57 (0, 0)) → Calls Try.prog 105 #[.agg #[.pointer (some ⟨b, 1, none⟩), .int .i64 3, .int .i64 0, .int .i64 16777215]] W fun e w' => e = .returned (.string t1) ∧ Below W.heap.size W w') := hid (fun b W hf => numW ⟨b, 1, none⟩ x1 3 0 16777215 t1 ht1 W ((blk_cell hf 1).trans rfl))
  have T2 : Hid (∀ b W, W.heap[b]? = some (.cells #[.string x0, .int .i64 x1, .int .i64 x2] 57 (0, 0)) → Calls Try.prog 105 #[.agg #[.pointer (some ⟨b, 2, none⟩), .int .i64 1, .int .i64 0, .int .i64 10]] W fun e w' => e = .returned (.string t2) ∧ Below W.heap.size W w') := hid (fun b W hf => numW ⟨b, 2, none⟩ x2 1 0 10 t2 ht2 W ((blk_cell hf 2).trans rfl))
  have z1 : ¬ 9223372036854775807 < n1.size + n2.size := by omega
  have z2 : ¬ 9223372036854775807 < n1.size + n2.size + n3.size := by omega
  have z3 : ¬ 9223372036854775807 < (n1 ++ n2).size + n3.size := by rw [ByteArray.size_append]; omega
  obtain ⟨S0, hS0⟩ : ∃ S, S = n1 ++ n2 ++ n3 := ⟨_, rfl⟩
  have l0 : S0.size ≤ 300 := by rw [hS0]; (repeat rw [ByteArray.size_append]); omega
  obtain ⟨S1, hS1⟩ : ∃ S, S = S0 ++ t0 := ⟨_, rfl⟩
  have y0 : ¬ 9223372036854775807 < S0.size + t0.size := by omega
  have l1 : S1.size ≤ 700 := by rw [hS1, ByteArray.size_append]; omega
  obtain ⟨S2, hS2⟩ : ∃ S, S = S1 ++ t1 := ⟨_, rfl⟩
  have y1 : ¬ 9223372036854775807 < S1.size + t1.size := by omega
  have l2 : S2.size ≤ 1100 := by rw [hS2, ByteArray.size_append]; omega
  obtain ⟨S3, hS3⟩ : ∃ S, S = S2 ++ t2 := ⟨_, rfl⟩
  have y2 : ¬ 9223372036854775807 < S2.size + t2.size := by omega
  have l3 : S3.size ≤ 1500 := by rw [hS3, ByteArray.size_append]; omega
  have hfin : S3 = n1 ++ n2 ++ n3 ++ t0 ++ t1 ++ t2 := by rw [hS3, hS2, hS1, hS0]
  replace hS0 := hid hS0
  replace hS1 := hid hS1
  replace hS2 := hid hS2
  replace hS3 := hid hS3
  rw [← hfin]
  clear hfin h1 h2 h3 hz l0 l1 l2 l3
  clear ht0 ht1 ht2
  go_enter Try.func10, Try.ntmps10
  go_upto_region 4 with (first | ((with_reducible refine Calls.mono (hI.out _) ?_); rintro e w1 ⟨rfl, nd, rfl⟩) | ((with_reducible refine Calls.mono (hR.out _) ?_); rintro e w2 ⟨rfl, hb2⟩; replace hb2 := hid (Below.trans (pw_below_drewN (Below.refl w.heap.size w) nd) hb2)))
  go_upto_region 5 with (first | ((with_reducible refine Calls.mono (H1.out _) ?_); rintro e w3 ⟨rfl, hb3⟩; replace hb3 := hid (below_then hb2.out hb2.out.size hb3)) | ((with_reducible refine Calls.mono (hOp.out _) ?_); rintro e w4 ⟨rfl, hb4⟩; replace hb4 := hid (below_then hb3.out hb3.out.size hb4)) | ((with_reducible refine Calls.mono (H2.out _) ?_); rintro e w5 ⟨rfl, hb5⟩; replace hb5 := hid (below_then hb4.out hb4.out.size hb5)) | ((with_reducible refine Calls.mono (H3.out _) ?_); rintro e w6 ⟨rfl, hb6⟩; replace hb6 := hid (below_then hb5.out hb5.out.size hb6)))
  go_upto_region 6 with (first | ((with_reducible refine Calls.mono (hO.out _) ?_); rintro e w7 ⟨b, rfl, hx, hb7⟩; replace hx := hid hx; replace hb7 := hid (below_then hb6.out hb6.out.size hb7)))
  go_wp2_with (first | ((with_reducible refine Calls.mono (hP.out _ _) ?_); rintro e w8 ⟨c, rfl, hc, hb8⟩; replace hc := hid hc; replace hx := hid ((hb8.block b (blk_lt hx.out)).trans hx.out); replace hb8 := hid (below_then hb7.out hb7.out.size hb8)))
  go_loopg [7, 38] 3 (fun g v7 v wr => Hid (Below w8.heap.size w8 wr) ∧ ((g = 3 ∧ v7 = .string S0 ∧ v = .int .i64 0) ∨ (g = 2 ∧ v7 = .string S1 ∧ v = .int .i64 1) ∨ (g = 1 ∧ v7 = .string S2 ∧ v = .int .i64 2) ∨ (g = 0 ∧ v7 = .string S3 ∧ v = .int .i64 3)))
  case atStart => exact ⟨hid (Below.refl _ _), .inl ⟨rfl, by rw [hS0.out], rfl⟩⟩
  case round =>
    obtain ⟨hbw, hcase⟩ := hrel
    have hc1 := hid ((hbw.out.block c (blk_lt hc.out)).trans hc.out)
    have hx1 := hid ((hbw.out.block b (blk_lt hx.out)).trans hx.out)
    have hbA := hid (below_then hb8.out hb8.out.size hbw.out)
    clear hI hR hO hOp H1 H2 H3 hP
    rcases hcase with ⟨rfl, rfl, rfl⟩ | ⟨rfl, rfl, rfl⟩ | ⟨rfl, rfl, rfl⟩ | ⟨rfl, rfl, rfl⟩
    · have dd : wr.cell? ⟨c, 0, none⟩ = some (.iface 142 (.agg #[.pointer (some ⟨b, 0, none⟩)])) := (blk_cell hc1.out 0).trans rfl
      have hM := hid (T0.out b wr hx1.out)
      go_wp2_with (first | ((with_reducible refine Calls.mono hM.out ?_); rintro e w9 ⟨rfl, hb9⟩; replace hb9 := hid (below_then hbw.out hbw.out.size hb9)))
      go_roundg 2
      case measure => omega
      case rel => exact ⟨hb9, .inr (.inl ⟨by first | rfl | trivial, by rw [hS1.out], by first | rfl | trivial⟩)⟩
    · have dd : wr.cell? ⟨c, 1, none⟩ = some (.iface 139 (.agg #[.pointer (some ⟨b, 1, none⟩), .int .i64 3, .int .i64 0, .int .i64 16777215])) := (blk_cell hc1.out 1).trans rfl
      have hM := hid (T1.out b wr hx1.out)
      go_wp2_with (first | ((with_reducible refine Calls.mono hM.out ?_); rintro e w9 ⟨rfl, hb9⟩; replace hb9 := hid (below_then hbw.out hbw.out.size hb9)))
      go_roundg 1
      case measure => omega
      case rel => exact ⟨hb9, .inr (.inr (.inl ⟨by first | rfl | trivial, by rw [hS2.out], by first | rfl | trivial⟩))⟩
    · have dd : wr.cell? ⟨c, 2, none⟩ = some (.iface 139 (.agg #[.pointer (some ⟨b, 2, none⟩), .int .i64 1, .int .i64 0, .int .i64 10])) := (blk_cell hc1.out 2).trans rfl
      have hM := hid (T2.out b wr hx1.out)
      go_wp2_with (first | ((with_reducible refine Calls.mono hM.out ?_); rintro e w9 ⟨rfl, hb9⟩; replace hb9 := hid (below_then hbw.out hbw.out.size hb9)))
      go_roundg 0
      case measure => omega
      case rel => exact ⟨hb9, .inr (.inr (.inr (⟨by first | rfl | trivial, by rw [hS3.out], by first | rfl | trivial⟩)))⟩
    · go_wp2_with fail
      go_ret2
      exact ⟨rfl, hbA.out⟩
set_option maxHeartbeats 1000000 in
set_option maxRecDepth 100000 in
theorem OpQuota  (w : World) : Calls Try.prog 54 #[.agg #[]] w fun e w' => e = .returned (.int .i64 12) ∧ Below w.heap.size w w' := by
  go_enter Try.func54, Try.ntmps54
  go_wp2_with fail
  go_ret
  exact ⟨rfl, by first | exact Below.refl _ _ | exact (Below.refl w.heap.size w).alloc (Nat.le_refl _) _⟩
set_option maxHeartbeats 1000000 in
set_option maxRecDepth 100000 in
theorem EncodeQuota (id : Int)   (n1 n2 n3 : ByteArray) (hI : P.proto_idRight.f id = some true) (hR : ∀ W : World, Calls Try.prog 12 #[.iface 65 (.agg #[])] W fun e w' => e = .returned (.bool true) ∧ Below W.heap.size W w') (h1 : P.proto_number.f 40 1 1 = some n1) (h2 : P.proto_number.f 40 12 1 = some n2) (h3 : P.proto_number.f 40 id 4 = some n3) (hz : n1.size ≤ 100 ∧ n2.size ≤ 100 ∧ n3.size ≤ 100) (w : World) :
    Calls Try.prog 10 #[.int .i64 id, .iface 65 (.agg #[])] w fun e w' => e = .returned (.tuple #[.string (n1 ++ n2 ++ n3), .int .i64 0]) ∧ Below w.heap.size w w' := by
  have hI := hid (fun W => P.proto_idRight.calls id true W hI)
  have hR := hid hR
  have hO := hid (fun W => ofQuota  W)
  have hOp := hid (fun W => OpQuota  W)
  have H1 := hid (fun W => P.proto_number.calls 40 1 1 n1 W h1)
  have H2 := hid (fun W => P.proto_number.calls 40 12 1 n2 W h2)
  have H3 := hid (fun W => P.proto_number.calls 40 id 4 n3 W h3)
  have hP := hid (fun b W => partsQuota b W)
  have ha := req_65 (.agg #[])
  have z1 : ¬ 9223372036854775807 < n1.size + n2.size := by omega
  have z2 : ¬ 9223372036854775807 < n1.size + n2.size + n3.size := by omega
  have z3 : ¬ 9223372036854775807 < (n1 ++ n2).size + n3.size := by rw [ByteArray.size_append]; omega
  obtain ⟨S0, hS0⟩ : ∃ S, S = n1 ++ n2 ++ n3 := ⟨_, rfl⟩
  have l0 : S0.size ≤ 300 := by rw [hS0]; (repeat rw [ByteArray.size_append]); omega
  have hfin : S0 = n1 ++ n2 ++ n3 := by rw [hS0]
  replace hS0 := hid hS0
  rw [← hfin]
  clear hfin h1 h2 h3 hz l0
  go_enter Try.func10, Try.ntmps10
  go_upto_region 4 with (first | ((with_reducible refine Calls.mono (hI.out _) ?_); rintro e w1 ⟨rfl, nd, rfl⟩) | ((with_reducible refine Calls.mono (hR.out _) ?_); rintro e w2 ⟨rfl, hb2⟩; replace hb2 := hid (Below.trans (pw_below_drewN (Below.refl w.heap.size w) nd) hb2)))
  go_upto_region 5 with (first | ((with_reducible refine Calls.mono (H1.out _) ?_); rintro e w3 ⟨rfl, hb3⟩; replace hb3 := hid (below_then hb2.out hb2.out.size hb3)) | ((with_reducible refine Calls.mono (hOp.out _) ?_); rintro e w4 ⟨rfl, hb4⟩; replace hb4 := hid (below_then hb3.out hb3.out.size hb4)) | ((with_reducible refine Calls.mono (H2.out _) ?_); rintro e w5 ⟨rfl, hb5⟩; replace hb5 := hid (below_then hb4.out hb4.out.size hb5)) | ((with_reducible refine Calls.mono (H3.out _) ?_); rintro e w6 ⟨rfl, hb6⟩; replace hb6 := hid (below_then hb5.out hb5.out.size hb6)))
  go_upto_region 6 with (first | ((with_reducible refine Calls.mono (hO.out _) ?_); rintro e w7 ⟨b, rfl, hx, hb7⟩; replace hx := hid hx; replace hb7 := hid (below_then hb6.out hb6.out.size hb7)))
  go_wp2_with (first | ((with_reducible refine Calls.mono (hP.out _ _) ?_); rintro e w8 ⟨rfl, rfl⟩))
  go_loopg [7, 38] 0 (fun g v7 v wr => v7 = .string S0 ∧ v = .int .i64 0 ∧ Hid (wr = w7))
  case atStart => exact ⟨by rw [hS0.out], rfl, hid rfl⟩
  case round =>
    obtain ⟨rfl, rfl, hwr⟩ := hrel
    rw [hwr.out]
    go_wp2_with fail
    go_ret2
    exact ⟨rfl, hb7.out⟩
set_option maxHeartbeats 1000000 in
set_option maxRecDepth 100000 in
theorem OpRotate  (w : World) : Calls Try.prog 65 #[.agg #[]] w fun e w' => e = .returned (.int .i64 13) ∧ Below w.heap.size w w' := by
  go_enter Try.func65, Try.ntmps65
  go_wp2_with fail
  go_ret
  exact ⟨rfl, by first | exact Below.refl _ _ | exact (Below.refl w.heap.size w).alloc (Nat.le_refl _) _⟩
set_option maxHeartbeats 1000000 in
set_option maxRecDepth 100000 in
theorem EncodeRotate (id : Int)   (n1 n2 n3 : ByteArray) (hI : P.proto_idRight.f id = some true) (hR : ∀ W : World, Calls Try.prog 12 #[.iface 75 (.agg #[])] W fun e w' => e = .returned (.bool true) ∧ Below W.heap.size W w') (h1 : P.proto_number.f 40 1 1 = some n1) (h2 : P.proto_number.f 40 13 1 = some n2) (h3 : P.proto_number.f 40 id 4 = some n3) (hz : n1.size ≤ 100 ∧ n2.size ≤ 100 ∧ n3.size ≤ 100) (w : World) :
    Calls Try.prog 10 #[.int .i64 id, .iface 75 (.agg #[])] w fun e w' => e = .returned (.tuple #[.string (n1 ++ n2 ++ n3), .int .i64 0]) ∧ Below w.heap.size w w' := by
  have hI := hid (fun W => P.proto_idRight.calls id true W hI)
  have hR := hid hR
  have hO := hid (fun W => ofRotate  W)
  have hOp := hid (fun W => OpRotate  W)
  have H1 := hid (fun W => P.proto_number.calls 40 1 1 n1 W h1)
  have H2 := hid (fun W => P.proto_number.calls 40 13 1 n2 W h2)
  have H3 := hid (fun W => P.proto_number.calls 40 id 4 n3 W h3)
  have hP := hid (fun b W => partsRotate b W)
  have ha := req_75 (.agg #[])
  have z1 : ¬ 9223372036854775807 < n1.size + n2.size := by omega
  have z2 : ¬ 9223372036854775807 < n1.size + n2.size + n3.size := by omega
  have z3 : ¬ 9223372036854775807 < (n1 ++ n2).size + n3.size := by rw [ByteArray.size_append]; omega
  obtain ⟨S0, hS0⟩ : ∃ S, S = n1 ++ n2 ++ n3 := ⟨_, rfl⟩
  have l0 : S0.size ≤ 300 := by rw [hS0]; (repeat rw [ByteArray.size_append]); omega
  have hfin : S0 = n1 ++ n2 ++ n3 := by rw [hS0]
  replace hS0 := hid hS0
  rw [← hfin]
  clear hfin h1 h2 h3 hz l0
  go_enter Try.func10, Try.ntmps10
  go_upto_region 4 with (first | ((with_reducible refine Calls.mono (hI.out _) ?_); rintro e w1 ⟨rfl, nd, rfl⟩) | ((with_reducible refine Calls.mono (hR.out _) ?_); rintro e w2 ⟨rfl, hb2⟩; replace hb2 := hid (Below.trans (pw_below_drewN (Below.refl w.heap.size w) nd) hb2)))
  go_upto_region 5 with (first | ((with_reducible refine Calls.mono (H1.out _) ?_); rintro e w3 ⟨rfl, hb3⟩; replace hb3 := hid (below_then hb2.out hb2.out.size hb3)) | ((with_reducible refine Calls.mono (hOp.out _) ?_); rintro e w4 ⟨rfl, hb4⟩; replace hb4 := hid (below_then hb3.out hb3.out.size hb4)) | ((with_reducible refine Calls.mono (H2.out _) ?_); rintro e w5 ⟨rfl, hb5⟩; replace hb5 := hid (below_then hb4.out hb4.out.size hb5)) | ((with_reducible refine Calls.mono (H3.out _) ?_); rintro e w6 ⟨rfl, hb6⟩; replace hb6 := hid (below_then hb5.out hb5.out.size hb6)))
  go_upto_region 6 with (first | ((with_reducible refine Calls.mono (hO.out _) ?_); rintro e w7 ⟨b, rfl, hx, hb7⟩; replace hx := hid hx; replace hb7 := hid (below_then hb6.out hb6.out.size hb7)))
  go_wp2_with (first | ((with_reducible refine Calls.mono (hP.out _ _) ?_); rintro e w8 ⟨rfl, rfl⟩))
  go_loopg [7, 38] 0 (fun g v7 v wr => v7 = .string S0 ∧ v = .int .i64 0 ∧ Hid (wr = w7))
  case atStart => exact ⟨by rw [hS0.out], rfl, hid rfl⟩
  case round =>
    obtain ⟨rfl, rfl, hwr⟩ := hrel
    rw [hwr.out]
    go_wp2_with fail
    go_ret2
    exact ⟨rfl, hb7.out⟩
end Go.Proofs.Ytfbcidfbgebbhaa.C
