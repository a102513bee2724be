/-
  Right, Encode and Decode at a Quota; the chapter's examples.
-/
import Derived.Test.YtfbcidfbgebbhaaA2
namespace Go.Proofs.Ytfbcidfbgebbhaa.A
set_option linter.unusedVariables false
set_option linter.unusedSimpArgs false
open Go.RowKit Go.Proofs.YtfbcidfbgebbhaaW.PrintWords Go.Proofs.YtfbcidfbgebbhaaW.PrintLast Go.Proofs.YtfbcidfbgebbhaaW.PrintMore
open Go.Lib (hid)
theorem parts.quota (b : Nat) (w : World) : Calls Try.prog 56 #[.pointer (some ⟨b, 0, none⟩)] w fun e w' => e = .returned (.slice none 0 0) ∧ w = w' := by
  go_enter Try.func56, Try.ntmps56
  go_wp2_with fail
  go_ret
  exact ⟨rfl, rfl⟩
set_option maxHeartbeats 1000000 in
set_option maxRecDepth 100000 in
theorem Right.quota (w : World) : Calls Try.prog 12 #[.iface 65 (.agg #[])] w fun e w' => e = .returned (.bool true) ∧ Below w.heap.size w w' := by
  have hO := hid (fun W => of.quota W)
  go_enter Try.func12, Try.ntmps12
  go_upto_region 4 with (first | ((with_reducible refine Calls.mono (hO.out _) ?_); rintro e w1 ⟨b, rfl, hx, hb⟩; replace hx := hid hx; replace hb := hid hb))
  have hP := hid (parts.quota b w1)
  go_wp2_with (first | ((with_reducible refine Calls.mono hP.out ?_); rintro e w2 ⟨rfl, rfl⟩))
  go_loopg [17] 0 (fun g v wr => v = .int .i64 0 ∧ Hid (wr = w1))
  case atStart => exact ⟨rfl, hid rfl⟩
  case round =>
    obtain ⟨rfl, hwr⟩ := hrel
    rw [hwr.out]
    go_wp2_with fail
    go_ret
    exact ⟨rfl, hb.out⟩
set_option maxHeartbeats 1000000 in
set_option maxRecDepth 100000 in
theorem Right.nil (w : World) : Calls Try.prog 12 #[.nilIface] w fun e w' => e = .returned (.bool false) ∧ w = w' := by
  have hO := hid (fun W => of.nil W)
  go_enter Try.func12, Try.ntmps12
  go_wp2_with (first | ((with_reducible refine Calls.mono (hO.out _) ?_); rintro e w1 ⟨rfl, rfl⟩))
  go_ret
  exact ⟨rfl, rfl⟩
set_option maxHeartbeats 1000000 in
set_option maxRecDepth 100000 in
theorem Right.ptr (b : Nat) (w : World) : Calls Try.prog 12 #[.iface 67 (.pointer (some ⟨b, 0, none⟩))] w fun e w' => e = .returned (.bool false) ∧ w = w' := by
  have hO := hid (fun W => of.ptr b W)
  go_enter Try.func12, Try.ntmps12
  go_wp2_with (first | ((with_reducible refine Calls.mono (hO.out _) ?_); rintro e w1 ⟨rfl, rfl⟩))
  go_ret
  exact ⟨rfl, rfl⟩
set_option maxHeartbeats 1000000 in
set_option maxRecDepth 100000 in
theorem Op.quota (w : World) : Calls Try.prog 54 #[.agg #[]] w fun e w' => e = .returned (.int .i64 12) ∧ Below w.heap.size w w' := by
  go_enter Try.func54, Try.ntmps54
  go_wp2_with fail
  go_ret
  exact ⟨rfl, (Below.refl w.heap.size w).alloc (Nat.le_refl _) _⟩
set_option maxHeartbeats 1000000 in
set_option maxRecDepth 100000 in
theorem Encode.quota (n1 n2 n3 : ByteArray) (w : World) (h1 : P.proto_number.f 40 1 1 = some n1) (h2 : P.proto_number.f 40 12 1 = some n2) (h3 : P.proto_number.f 40 7 4 = some n3) (hz : n1.size ≤ 100 ∧ n2.size ≤ 100 ∧ n3.size ≤ 100) :
    Calls Try.prog 10 #[.int .i64 7, .iface 65 (.agg #[])] w fun e w' => e = .returned (.tuple #[.string (n1 ++ n2 ++ n3), .int .i64 0]) ∧ Below w.heap.size w w' := by
  have hI := hid (fun W => P.proto_idRight.calls 7 true W (by decide))
  have hR := hid (fun W => Right.quota W)
  have hO := hid (fun W => of.quota W)
  have H1 := hid (fun W => P.proto_number.calls 40 1 1 n1 W h1)
  have H2 := hid (fun W => P.proto_number.calls 40 12 1 n2 W h2)
  have H3 := hid (fun W => P.proto_number.calls 40 7 4 n3 W h3)
  have hP := hid (fun b W => parts.quota b W)
  have ha : ∀ W : World, (Instr.typeAssert (.iface 65 (.agg #[])) 20 40 false).run Try.prog W = .ok (.iface 65 (.agg #[])) W := fun W => by kernel_rfl
  have z1 : ¬ 9223372036854775807 < n1.size + n2.size := by omega
  have z2 : ¬ 9223372036854775807 < n1.size + n2.size + n3.size := by omega
  have z3 : ¬ 9223372036854775807 < (n1 ++ n2).size + n3.size := by rw [ByteArray.size_append]; omega
  clear h1 h2 h3 hz
  go_enter Try.func10, Try.ntmps10
  go_wp2_with (first | ((with_reducible refine Calls.mono (hI.out _) ?_); rintro e w1 ⟨rfl, nd, rfl⟩) | ((with_reducible refine Calls.mono (hR.out _) ?_); rintro e w2 ⟨rfl, hb2⟩; replace hb2 := hid (Below.trans (pw_below_drewN (Below.refl w.heap.size w) nd) hb2)))
  go_wp2_with (first | ((with_reducible refine Calls.mono (H1.out _) ?_); rintro e w3 ⟨rfl, hb3⟩; replace hb3 := hid (below_then hb2.out hb2.out.size hb3)))
  have hOp := hid (Op.quota w3)
  go_wp2_with (first | ((with_reducible refine Calls.mono hOp.out ?_); rintro e w4 ⟨rfl, hb4⟩; replace hb4 := hid (below_then hb3.out hb3.out.size hb4)) | ((with_reducible refine Calls.mono (H2.out _) ?_); rintro e w5 ⟨rfl, hb5⟩; replace hb5 := hid (below_then hb4.out hb4.out.size hb5)) | ((with_reducible refine Calls.mono (H3.out _) ?_); rintro e w6 ⟨rfl, hb6⟩; replace hb6 := hid (below_then hb5.out hb5.out.size hb6)) | ((with_reducible refine Calls.mono (hO.out _) ?_); rintro e w7 ⟨b, rfl, hx, hb7⟩; replace hb7 := hid (below_then hb6.out hb6.out.size hb7)) | ((with_reducible refine Calls.mono (hP.out _ _) ?_); rintro e w8 ⟨rfl, rfl⟩))
  go_loopg [7, 38] 0 (fun g v7 v wr => v7 = .string (n1 ++ n2 ++ n3) ∧ v = .int .i64 0 ∧ Hid (wr = w7))
  case atStart => exact ⟨rfl, rfl, hid rfl⟩
  case round =>
    obtain ⟨rfl, rfl, hwr⟩ := hrel
    rw [hwr.out]
    go_wp2_with fail
    go_ret2
    exact ⟨rfl, hb7.out⟩
theorem num_q : P.proto_number.f 40 1 1 = some ⟨#[1]⟩ ∧ P.proto_number.f 40 12 1 = some ⟨#[12]⟩ ∧ P.proto_number.f 40 7 4 = some ⟨#[0, 0, 0, 7]⟩ := by decide +kernel
theorem Encode.example (w : World) : Calls Try.prog 10 #[.int .i64 7, .iface 65 (.agg #[])] w fun e w' => e = .returned (.tuple #[.string ⟨#[1, 12, 0, 0, 0, 7]⟩, .int .i64 0]) ∧ Below w.heap.size w w' :=
  Encode.quota ⟨#[1]⟩ ⟨#[12]⟩ ⟨#[0, 0, 0, 7]⟩ w num_q.1 num_q.2.1 num_q.2.2 (by decide)
theorem take_q : P.num_Take.f 40 ⟨#[1, 12, 0, 0, 0, 7]⟩ 1 = some (1, ⟨#[12, 0, 0, 0, 7]⟩, 0) ∧ P.num_Take.f 40 ⟨#[12, 0, 0, 0, 7]⟩ 1 = some (12, ⟨#[0, 0, 0, 7]⟩, 0) ∧ P.num_Take.f 40 ⟨#[0, 0, 0, 7]⟩ 4 = some (7, ⟨#[]⟩, 0) := by decide +kernel
theorem Rd.refl {g : Nat} {b : ByteArray} {bad : Bool} {W : World} (h : W.heap[g]? = some (.cells #[.string b, .bool bad] 89 (0, 0))) : Rd g b bad W W := ⟨h, rfl, rfl, rfl, Nat.le_refl _, fun _ _ _ => rfl⟩
theorem Rd.trans {g : Nat} {b b' : ByteArray} {bad bad' : Bool} {w W W' : World} (h : Rd g b bad w W) (h' : Rd g b' bad' W W') : Rd g b' bad' w W' :=
  ⟨h'.hx, h'.os.trans h.os, h'.tape.trans h.tape, h'.output.trans h.output, Nat.le_trans h.size h'.size, fun i hi hn => (h'.keep i (Nat.lt_of_lt_of_le hi h.size) hn).trans (h.keep i hi hn)⟩
theorem Rd.kept {g b : Nat} {x : ByteArray} {bad : Bool} {y : ByteArray} {bad' : Bool} {W W' : World} (h : Rd g x bad W W') (h0 : W.heap[g]? = some (.cells #[.string y, .bool bad'] 89 (0, 0))) (hx : W.heap[b]? = some (.cells #[] 65 (0, 0))) : W'.heap[b]? = some (.cells #[] 65 (0, 0)) := by
  have hn : b ≠ g := by rintro rfl; rw [h0] at hx; cases hx
  exact (h.keep b (blk_lt hx) hn).trans hx
set_option maxHeartbeats 1000000 in
set_option maxRecDepth 100000 in
theorem done.quota (b : Nat) (w : World) (hx : w.heap[b]? = some (.cells #[] 65 (0, 0))) : Calls Try.prog 55 #[.pointer (some ⟨b, 0, none⟩)] w fun e w' => e = .returned (.iface 65 (.agg #[])) ∧ w = w' := by
  go_enter Try.func55, Try.ntmps55
  go_wp2_with fail
  go_ret
  exact ⟨rfl, rfl⟩
set_option maxHeartbeats 1000000 in
set_option maxRecDepth 100000 in
theorem Decode.example (w : World) : Calls Try.prog 11 #[.string ⟨#[1, 12, 0, 0, 0, 7]⟩] w fun e w' => e = .returned (.tuple #[.int .i64 7, .iface 65 (.agg #[]), .int .i64 0]) ∧ Below w.heap.size w w' := by
  have hS : Hid (Rd w.heap.size ⟨#[1, 12, 0, 0, 0, 7]⟩ false w (w.alloc (.cells #[.string ⟨#[1, 12, 0, 0, 0, 7]⟩, .bool false] 89))) := hid (Rd.start _ (Below.refl w.heap.size w))
  obtain ⟨t1, t2, t3⟩ := take_q
  have N0 : Hid (∀ g W, Rd g ⟨#[1, 12, 0, 0, 0, 7]⟩ false w W → Calls Try.prog 20 #[.pointer (some ⟨g, 0, none⟩), .int .i64 1] W fun e w' => e = .returned (.int .u64 1) ∧ Rd g ⟨#[12, 0, 0, 0, 7]⟩ false w w') := hid (fun g W h => rnum 40 g _ false 1 _ _ _ w W t1 h)
  have N1 : Hid (∀ g W, Rd g ⟨#[12, 0, 0, 0, 7]⟩ false w W → Calls Try.prog 20 #[.pointer (some ⟨g, 0, none⟩), .int .i64 1] W fun e w' => e = .returned (.int .u64 12) ∧ Rd g ⟨#[0, 0, 0, 7]⟩ false w w') := hid (fun g W h => rnum 40 g _ false 1 _ _ _ w W t2 h)
  have N2 : Hid (∀ g W, Rd g ⟨#[0, 0, 0, 7]⟩ false w W → Calls Try.prog 20 #[.pointer (some ⟨g, 0, none⟩), .int .i64 4] W fun e w' => e = .returned (.int .u64 7) ∧ Rd g ⟨#[]⟩ false W w') := hid (fun g W h => rnum 40 g _ false 4 _ _ _ W W t3 (Rd.refl h.hx))
  have hD := hid (fun b W => done.quota b W)
  have hEm := hid (fun W => empty.quota W)
  have hP := hid (fun b W => parts.quota b W)
  have hEn := hid (fun W => Encode.example W)
  clear t1 t2 t3
  go_enter Try.func11, Try.ntmps11
  go_upto_region 2 with fail
  generalize w.alloc (.cells #[.string ⟨#[1, 12, 0, 0, 0, 7]⟩, .bool false] 89) = w1 at *
  obtain ⟨g, hg⟩ : ∃ g, g = w.heap.size := ⟨_, rfl⟩
  rw [← hg] at hS ⊢
  replace hg := hid hg
  go_upto_region 7 with (first | ((with_reducible refine Calls.mono (N0.out _ _ hS.out) ?_); rintro r w2 ⟨rfl, hS2⟩; replace hS2 := hid hS2) | ((with_reducible refine Calls.mono (N1.out _ _ hS2.out) ?_); rintro r w3 ⟨rfl, hS3⟩; replace hS3 := hid hS3) | ((with_reducible refine Calls.mono (hEm.out _) ?_); rintro r w4 ⟨b, rfl, hx, hb4⟩; replace hx := hid hx; have hS4 := hid (hS3.out.below hb4)) | ((with_reducible refine Calls.mono (N2.out _ _ hS4.out) ?_); rintro r w5 ⟨rfl, hS5⟩; replace hx := hid (hS5.kept hS4.out.hx hx.out); replace hS5 := hid (hS4.out.trans hS5)))
  go_wp2_with (first | ((with_reducible refine Calls.mono (hP.out _ _) ?_); rintro e w8 ⟨rfl, rfl⟩))
  go_loopg [32] 0 (fun g v wr => v = .int .i64 0 ∧ Hid (wr = w5))
  case atStart => exact ⟨rfl, hid rfl⟩
  case round =>
    obtain ⟨rfl, hwr⟩ := hrel
    rw [hwr.out]
    go_upto_region 14 with (first | ((with_reducible refine Calls.mono (hD.out _ _ hx.out) ?_); rintro e w8 ⟨rfl, rfl⟩) | ((with_reducible refine Calls.mono (hEn.out _) ?_); rintro e w6 ⟨rfl, hb6⟩; replace hS5 := hid (hS5.out.below hb6)))
    have d1 : w6.cell? ⟨g, 1, none⟩ = some (.bool false) := (blk_cell hS5.out.hx 1).trans rfl
    have hB6 : Hid (Below w.heap.size w w6) := hid (hS5.out.done (by rw [hg.out]; exact Nat.le_refl _))
    clear N0 N1 N2 hS hS2 hS3 hS4 hS5
    go_wp2_with fail
    go_ret3
    exact ⟨rfl, by first | exact hB6.out | (rw [hg.out]; exact hB6.out)⟩
end Go.Proofs.Ytfbcidfbgebbhaa.A
