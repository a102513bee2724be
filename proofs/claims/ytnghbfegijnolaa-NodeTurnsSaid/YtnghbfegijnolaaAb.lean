/-
  Encode at the chapter's example.
-/
import Derived.Test.YtnghbfegijnolaaAa
import Derived.Test.YtnghbfegijnolaaSr
import Derived.Test.YtnghbfegijnolaaSh
import Derived.Test.YtnghbfegijnolaaQx1
namespace Go.Proofs.Ytnghbfegijnolaa.A
set_option linter.unusedVariables false
set_option linter.unusedSimpArgs false
open Go.RowKit Go.Proofs.YtnghbfegijnolaaW.PrintWords Go.Proofs.YtnghbfegijnolaaW.PrintLast Go.Proofs.YtnghbfegijnolaaW.PrintMore
open Go.Lib (hid)
theorem isBF_below {T e : TypeId} {B b : Nat} {bs : List Value} {w w' : World} (h : Lib.IsBuilderF T e B b bs w) (hb : Below w.heap.size w w') : Lib.IsBuilderF T e B b bs w' := by
  have hn : ∀ v : Value, v.ownBlock = none ∨ v.ownBlock ≠ none := fun v => by cases v.ownBlock <;> simp
  rcases h with ⟨h0, v, h1, h2, h3⟩ | ⟨h0, v, h1, h2, h3⟩
  · exact .inl ⟨h0, v, (hb.block b (blk_lt h1)).trans h1, h2.kept (grown_of_below hb none) (hn v), h3⟩
  · exact .inr ⟨h0, v, (hb.block b (blk_lt h1)).trans h1, h2.kept (grown_of_below hb none) (hn v), h3⟩
theorem put78 : Q.num_Put.f 20 7 8 = some (⟨#[0, 0, 0, 0, 0, 0, 0, 7]⟩, 0) := by decide +kernel
theorem text_abc : P.num_Text.f ⟨#[97, 98, 99]⟩ = some (⟨#[3, 97, 98, 99]⟩, 0) := by decide +kernel
theorem kept29 {b : Option Nat} {w w' : World} {k : Nat} {cs : Array Value} (h : Lib.OthersKept 5 b w w') (hk : w.heap[k]? = some (.cells cs 29 (0, 0))) (hne : some k ≠ b) : w'.heap[k]? = some (.cells cs 29 (0, 0)) :=
  h k _ hk hne (fun c fz e => by cases e)
set_option maxHeartbeats 1000000 in
set_option maxRecDepth 100000 in
theorem number_ex (B b : Nat) (bs : List Value) (w : World) (h : Lib.IsBuilderF 79 5 B b bs w) (hlen : bs.length ≤ 100) (hBw : B ≤ w.heap.size) :
    Calls Try.prog 39 #[.int .u64 7, .int .i64 8, .pointer (some ⟨b, 0, none⟩)] w fun e w' => e = .returned (.tuple #[]) ∧ Lib.IsBuilderF 79 5 B b (bs ++ Lib.strCells ⟨#[0, 0, 0, 0, 0, 0, 0, 7]⟩) w' ∧ Below B w w' ∧ (∀ k cs, w.heap[k]? = some (.cells cs 29 (0, 0)) → some k ≠ some b → w'.heap[k]? = some (.cells cs 29 (0, 0))) := by
  have hP := hid (fun W => Q.num_Put.calls 20 7 8 _ _ W put78)
  have hS := hid (fun W (p : Lib.IsBuilderF 79 5 B b bs W) (q : B ≤ W.heap.size) => Try.Builder_WriteString_k B b bs ⟨#[0, 0, 0, 0, 0, 0, 0, 7]⟩ W p (by show bs.length + 8 ≤ _; omega) q)
  replace h := hid h
  generalize hz : (⟨#[0, 0, 0, 0, 0, 0, 0, 7]⟩ : ByteArray) = z at *
  replace hz := hid hz
  go_enter Try.func39, Try.ntmps39
  go_wp2_with (first | ((with_reducible refine Calls.mono (hP.out _) ?_); rintro r w2 ⟨rfl, hb2⟩; replace hb2 := hid hb2) | ((with_reducible refine Calls.mono (hS.out _ (isBF_below h.out hb2.out) (Nat.le_trans hBw hb2.out.size)) ?_); rintro r w3 ⟨rfl, q1, q2, q3⟩; replace q1 := hid q1; replace q2 := hid q2; replace q3 := hid q3))
  go_end0
  exact ⟨rfl, .inr q1.out, ⟨q2.out.os.trans hb2.out.os, q2.out.tape.trans hb2.out.tape, q2.out.output.trans hb2.out.output, Nat.le_trans hb2.out.size q2.out.size, fun i hi => (q2.out.block i hi).trans (hb2.out.block i (Nat.lt_of_lt_of_le hi hBw))⟩, fun k cs hk hne => kept29 q3.out ((hb2.out.block k (blk_lt hk)).trans hk) hne⟩
set_option maxHeartbeats 1000000 in
set_option maxRecDepth 100000 in
theorem encode_ex (v : Value) (w : World) (H : At w v exN) : Calls Try.prog 18 #[v] w fun e w' => e = .returned (.tuple #[.string ⟨#[1, 0, 0, 0, 0, 0, 0, 0, 7, 3, 97, 98, 99]⟩, .int .i64 0]) ∧ Below w.heap.size w w' := by
  obtain ⟨A1, c1, A2, c2, A3, c3, rfl, ⟨h1, l1⟩, ⟨h2, l2⟩, ⟨h3, l3⟩⟩ := H
  obtain ⟨ad1, eA1, k1⟩ := C_one h1 0 0 (by decide)
  obtain ⟨ad2, eA2, k2⟩ := C_one h2 (⟨#[]⟩ : ByteArray) 0 (by decide)
  subst eA1
  subst eA2
  have HA : Hid (∀ W, Below w.heap.size w W → At W (.agg #[.bool true, .slice (some ad1) 1 c1, .slice (some ad2) 1 c2, .slice A3 0 c3]) exN) := hid (fun W (hb : Below w.heap.size w W) => At.mk_ (x := exN) (Kd.C_below h1 hb) l1 (Kd.C_below h2 hb) l2 (Kd.C_below h3 hb) l3)
  have hB := hid (below_alloc (Below.refl w.heap.size w) (.cells #[.bool true, .slice (some ad1) 1 c1, .slice (some ad2) 1 c2, .slice A3 0 c3] 29))
  have hx : Hid ((w.alloc (.cells #[.bool true, .slice (some ad1) 1 c1, .slice (some ad2) 1 c2, .slice A3 0 c3] 29)).heap[w.heap.size]? = some (.cells #[.bool true, .slice (some ad1) 1 c1, .slice (some ad2) 1 c2, .slice A3 0 c3] 29 (0, 0))) := hid Array.getElem?_push_size
  have z1 : ad1.add 0 = ad1 := by simp [Addr.add]
  have z2 : ad2.add 0 = ad2 := by simp [Addr.add]
  have K1 : Hid (w.cell? ad1 = some (.int .u64 7)) := hid (by rw [z1] at k1; exact k1)
  have K2 : Hid (w.cell? ad2 = some (.string ⟨#[97, 98, 99]⟩)) := hid (by rw [z2] at k2; exact k2)
  have HR : Hid (∀ W, Below w.heap.size w W → Calls Try.prog 38 #[.agg #[.bool true, .slice (some ad1) 1 c1, .slice (some ad2) 1 c2, .slice A3 0 c3]] W fun e w' => e = .returned (.bool true) ∧ Below W.heap.size W w') := hid (fun W hb => right_ex _ W (HA.out W hb))
  have HT := hid (fun W => P.num_Text.calls _ _ _ W text_abc)
  clear h1 h2 h3 l1 l2 l3 k1 k2 z1 z2
  have HN := hid (fun b bs W p q r => number_ex w.heap.size b bs W p q r)
  have HWB := hid (fun b bs W p q r => Try.Builder_WriteByte_k w.heap.size b bs 1 W p q r)
  have HWS := hid (fun b bs W p q r => Try.Builder_WriteString_k w.heap.size b bs ⟨#[3, 97, 98, 99]⟩ W p q r)
  have HST := hid (fun b l W p q => Try.Builder_String_any_k w.heap.size b l W p q)
  go_enter Try.func18, Try.ntmps18
  go_upto_region 1 with fail
  change Code.wp _ _ _ _ (w.alloc (.cells #[.bool true, .slice (some ad1) 1 c1, .slice (some ad2) 1 c2, .slice A3 0 c3] 29))
  generalize w.alloc (.cells #[.bool true, .slice (some ad1) 1 c1, .slice (some ad2) 1 c2, .slice A3 0 c3] 29) = w1 at *
  have d0 : w1.cell? ⟨w.heap.size, 0, none⟩ = some (.bool true) := (blk_cell hx.out 0).trans rfl
  have d1 : w1.cell? ⟨w.heap.size, 1, none⟩ = some (.slice (some ad1) 1 c1) := (blk_cell hx.out 1).trans rfl
  have d2 : w1.cell? ⟨w.heap.size, 2, none⟩ = some (.slice (some ad2) 1 c2) := (blk_cell hx.out 2).trans rfl
  have d3 : w1.cell? ⟨w.heap.size, 3, none⟩ = some (.slice A3 0 c3) := (blk_cell hx.out 3).trans rfl
  go_upto_region 3 with (first | ((with_reducible refine Calls.mono (HR.out _ hB.out) ?_); rintro r w2 ⟨rfl, hb2⟩; replace hx := hid ((hb2.block _ (blk_lt hx.out)).trans hx.out); replace hB := hid (below_then hB.out hB.out.size hb2)))
  clear d0 d1 d2 d3 HR
  have hbb : w.heap.size ≤ w2.heap.size := hB.out.size
  have hne : some w.heap.size ≠ some w2.heap.size := fun e => Nat.lt_irrefl _ (Option.some.inj e ▸ blk_lt hx.out)
  replace hx := hid (((below_alloc (Below.refl _ w2) (.cells #[.pointer none, .slice none 0 0] 79)).block _ (blk_lt hx.out)).trans hx.out)
  have hF : Hid (Lib.IsBuilderF 79 5 w.heap.size w2.heap.size [] (w2.alloc (.cells #[.pointer none, .slice none 0 0] 79))) := hid (Lib.IsBuilderF.of (Or.inl ⟨hbb, .slice none 0 0, heap_alloc_new w2 _, World.ownsRow_nil _ _ _ _, by simp [Value.ownBlock]⟩))
  replace hB := hid (below_alloc hB.out (.cells #[.pointer none, .slice none 0 0] 79))
  replace hne := hid hne
  clear hbb
  go_upto_region 4 with fail
  generalize w2.alloc (.cells #[.pointer none, .slice none 0 0] 79) = w3 at hx hF hB ⊢
  generalize w2.heap.size = b at hF hne ⊢
  have d0 : w3.cell? ⟨w.heap.size, 0, none⟩ = some (.bool true) := (blk_cell hx.out 0).trans rfl
  have d1 : w3.cell? ⟨w.heap.size, 1, none⟩ = some (.slice (some ad1) 1 c1) := (blk_cell hx.out 1).trans rfl
  have d2 : w3.cell? ⟨w.heap.size, 2, none⟩ = some (.slice (some ad2) 1 c2) := (blk_cell hx.out 2).trans rfl
  have d3 : w3.cell? ⟨w.heap.size, 3, none⟩ = some (.slice A3 0 c3) := (blk_cell hx.out 3).trans rfl
  go_upto_region 9 with (first | ((with_reducible refine Calls.mono (HWB.out _ _ _ hF.out (by decide) hB.out.size) ?_); rintro r w4 ⟨rfl, q1, q2, q3⟩; replace hF := hid (show Lib.IsBuilderF 79 5 w.heap.size b ([] ++ [.int .u8 1]) w4 from .inr q1); replace hx := hid (kept29 q3 hx.out hne.out); replace hB := hid (hB.out.trans q2)))
  clear d0 d1 d2 d3 q1 q2 q3 HWB
  have d0 : w4.cell? ⟨w.heap.size, 0, none⟩ = some (.bool true) := (blk_cell hx.out 0).trans rfl
  have d1 : w4.cell? ⟨w.heap.size, 1, none⟩ = some (.slice (some ad1) 1 c1) := (blk_cell hx.out 1).trans rfl
  have d2 : w4.cell? ⟨w.heap.size, 2, none⟩ = some (.slice (some ad2) 1 c2) := (blk_cell hx.out 2).trans rfl
  have d3 : w4.cell? ⟨w.heap.size, 3, none⟩ = some (.slice A3 0 c3) := (blk_cell hx.out 3).trans rfl
  go_wp2_with fail
  clear d0 d1 d2 d3
  go_loopg [6, 7, 8, 9, 28] 1 (fun g v6 v7 v8 v9 i wr => Hid (Below w.heap.size w wr) ∧ Hid (wr.heap[w.heap.size]? = some (.cells #[.bool true, .slice (some ad1) 1 c1, .slice (some ad2) 1 c2, .slice A3 0 c3] 29 (0, 0))) ∧ ((g = 1 ∧ i = .int .i64 0 ∧ Hid (Lib.IsBuilderF 79 5 w.heap.size b ([] ++ [.int .u8 1]) wr)) ∨ (g = 0 ∧ i = .int .i64 1 ∧ Hid (Lib.IsBuilderF 79 5 w.heap.size b ((([] ++ [.int .u8 1]) ++ Lib.strCells ⟨#[0, 0, 0, 0, 0, 0, 0, 7]⟩) ++ Lib.strCells ⟨#[3, 97, 98, 99]⟩) wr))))
  case atStart => exact ⟨hB, hx, .inl ⟨rfl, rfl, hF⟩⟩
  case round =>
    clear hB hx hF
    obtain ⟨hB, hx, hcase⟩ := hrel
    rcases hcase with ⟨rfl, rfl, hF⟩ | ⟨rfl, rfl, hF⟩
    · have d0 : wr.cell? ⟨w.heap.size, 0, none⟩ = some (.bool true) := (blk_cell hx.out 0).trans rfl
      have d1 : wr.cell? ⟨w.heap.size, 1, none⟩ = some (.slice (some ad1) 1 c1) := (blk_cell hx.out 1).trans rfl
      have d2 : wr.cell? ⟨w.heap.size, 2, none⟩ = some (.slice (some ad2) 1 c2) := (blk_cell hx.out 2).trans rfl
      have d3 : wr.cell? ⟨w.heap.size, 3, none⟩ = some (.slice A3 0 c3) := (blk_cell hx.out 3).trans rfl
      have kk1 := pw_cell_below hB.out K1.out
      go_wp2_with (first | ((with_reducible refine Calls.mono (HN.out _ _ _ hF.out (by decide) hB.out.size) ?_); rintro r w5 ⟨rfl, q1, q2, q3⟩; replace hF := hid q1; replace hx := hid (q3 _ _ hx.out hne.out); replace hB := hid (hB.out.trans q2); have kk2 := pw_cell_below hB.out K2.out; have y0 : w5.cell? ⟨w.heap.size, 0, none⟩ = some (.bool true) := (blk_cell hx.out 0).trans rfl; have y1 : w5.cell? ⟨w.heap.size, 1, none⟩ = some (.slice (some ad1) 1 c1) := (blk_cell hx.out 1).trans rfl; have y2 : w5.cell? ⟨w.heap.size, 2, none⟩ = some (.slice (some ad2) 1 c2) := (blk_cell hx.out 2).trans rfl; have y3 : w5.cell? ⟨w.heap.size, 3, none⟩ = some (.slice A3 0 c3) := (blk_cell hx.out 3).trans rfl) | ((with_reducible refine Calls.mono (HT.out _) ?_); rintro r w6 ⟨rfl, hb6⟩; replace hF := hid (isBF_below hF.out hb6); replace hx := hid ((hb6.block _ (blk_lt hx.out)).trans hx.out); replace hB := hid (below_then hB.out hB.out.size hb6)) | ((with_reducible refine Calls.mono (HWS.out _ _ _ hF.out (by decide) hB.out.size) ?_); rintro r w7 ⟨rfl, q1, q2, q3⟩; replace hF := hid (show Lib.IsBuilderF 79 5 w.heap.size b ((([] ++ [.int .u8 1]) ++ Lib.strCells ⟨#[0, 0, 0, 0, 0, 0, 0, 7]⟩) ++ Lib.strCells ⟨#[3, 97, 98, 99]⟩) w7 from .inr q1); replace hx := hid (kept29 q3 hx.out hne.out); replace hB := hid (hB.out.trans q2)))
      go_roundg 0
      case measure => omega
      case rel => exact ⟨hB, hx, .inr ⟨rfl, rfl, hF⟩⟩
    · have hS := hid (show Lib.IsBuilderF 79 5 w.heap.size b (Lib.byteCells [1, 0, 0, 0, 0, 0, 0, 0, 7, 3, 97, 98, 99]) wr from hF.out)
      clear hF
      go_wp2_with (first | ((with_reducible refine Calls.mono (HST.out _ _ _ hS.out hB.out.size) ?_); rintro r w8 ⟨rfl, _, q2, _⟩; replace hB := hid (hB.out.trans q2)))
      go_ret2
      exact ⟨rfl, hB.out⟩
end Go.Proofs.Ytnghbfegijnolaa.A
