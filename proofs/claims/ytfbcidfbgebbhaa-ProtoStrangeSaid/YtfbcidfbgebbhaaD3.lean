/-
  made, at some places.
-/
import Derived.Test.YtfbcidfbgebbhaaC2
namespace Go.Proofs.Ytfbcidfbgebbhaa.C
set_option linter.unusedVariables false
set_option linter.unusedSimpArgs false
open Go.RowKit Go.Proofs.YtfbcidfbgebbhaaW.PrintWords Go.Proofs.YtfbcidfbgebbhaaW.PrintLast Go.Proofs.YtfbcidfbgebbhaaW.PrintMore
open Go.Lib (hid)
set_option maxHeartbeats 1000000 in
set_option maxRecDepth 100000 in
theorem madeMove (x0 : Int) (x1 : ByteArray) (x2 : ByteArray) (x3 : ByteArray) (x4 : Int) (x5 : Int) (x6 : Int) (x7 : Int) (x8 : Int) (x9 : Int) (x10 : Bool) (x11 : Int) (x12 : Int) (m : Int) (h0 : 0 ≤ m) (h1 : m % 13 = 9) (hw : -9223372036854775808 ≤ x0) (hs : (0 ≤ x0 ∧ m = x0) ∨ (x0 < 0 ∧ m = -(x0 + 1))) (w : World) :
    Calls Try.prog 9 #[.agg #[.int .i64 x0, .string x1, .string x2, .string x3, .int .i64 x4, .int .i64 x5, .int .i64 x6, .int .i64 x7, .int .i64 x8, .int .i32 x9, .bool x10, .int .i64 x11, .int .i64 x12]] w fun e w' => e = .returned (.iface 74 (.agg #[.string x2, .string x3])) ∧ Below w.heap.size w w' := by
  have hB := hid (below_alloc (Below.refl w.heap.size w) (.cells #[.int .i64 x0, .string x1, .string x2, .string x3, .int .i64 x4, .int .i64 x5, .int .i64 x6, .int .i64 x7, .int .i64 x8, .int .i32 x9, .bool x10, .int .i64 x11, .int .i64 x12] 23))
  have hx : Hid ((w.alloc (.cells #[.int .i64 x0, .string x1, .string x2, .string x3, .int .i64 x4, .int .i64 x5, .int .i64 x6, .int .i64 x7, .int .i64 x8, .int .i32 x9, .bool x10, .int .i64 x11, .int .i64 x12] 23)).heap[w.heap.size]? = some (.cells #[.int .i64 x0, .string x1, .string x2, .string x3, .int .i64 x4, .int .i64 x5, .int .i64 x6, .int .i64 x7, .int .i64 x8, .int .i32 x9, .bool x10, .int .i64 x11, .int .i64 x12] 23 (0, 0))) := hid Array.getElem?_push_size
  have e1 : x0 < 0 → wrap64 (x0 + 1) = x0 + 1 := fun _ => by unfold wrap64; omega
  have e2 : x0 < 0 → wrap64 (-(x0 + 1)) = -(x0 + 1) := fun _ => by unfold wrap64; omega
  rcases hs with ⟨h2, rfl⟩ | ⟨h2, hm⟩
  · clear e1 e2
    have h3 : ¬ m < 0 := by omega
    go_enter Try.func9, Try.ntmps9
    (try dsimp only [List.append])
    go_upto_region 1 with fail
    generalize w.alloc (.cells #[.int .i64 m, .string x1, .string x2, .string x3, .int .i64 x4, .int .i64 x5, .int .i64 x6, .int .i64 x7, .int .i64 x8, .int .i32 x9, .bool x10, .int .i64 x11, .int .i64 x12] 23) = w1 at *
    have d0 : w1.cell? ⟨w.heap.size, 0, none⟩ = some (.int .i64 m) := (blk_cell hx.out 0).trans rfl
    have d2 : w1.cell? ⟨w.heap.size, 2, none⟩ = some (.string x2) := (blk_cell hx.out 2).trans rfl
    have d3 : w1.cell? ⟨w.heap.size, 3, none⟩ = some (.string x3) := (blk_cell hx.out 3).trans rfl
    clear hx
    go_wp2_with fail
    go_ret
    exact ⟨rfl, hB.out⟩
  · replace e1 := e1 h2
    replace e2 := e2 h2
    replace hm := hid hm
    go_enter Try.func9, Try.ntmps9
    (try dsimp only [List.append])
    go_upto_region 1 with fail
    generalize w.alloc (.cells #[.int .i64 x0, .string x1, .string x2, .string x3, .int .i64 x4, .int .i64 x5, .int .i64 x6, .int .i64 x7, .int .i64 x8, .int .i32 x9, .bool x10, .int .i64 x11, .int .i64 x12] 23) = w1 at *
    have d0 : w1.cell? ⟨w.heap.size, 0, none⟩ = some (.int .i64 x0) := (blk_cell hx.out 0).trans rfl
    have d2 : w1.cell? ⟨w.heap.size, 2, none⟩ = some (.string x2) := (blk_cell hx.out 2).trans rfl
    have d3 : w1.cell? ⟨w.heap.size, 3, none⟩ = some (.string x3) := (blk_cell hx.out 3).trans rfl
    clear hx
    go_upto_region 4 with fail
    (try rw [← hm.out])
    clear hm e1 e2 h2
    go_wp2_with fail
    go_ret
    exact ⟨rfl, hB.out⟩
set_option maxHeartbeats 1000000 in
set_option maxRecDepth 100000 in
theorem madeList (x0 : Int) (x1 : ByteArray) (x2 : ByteArray) (x3 : ByteArray) (x4 : Int) (x5 : Int) (x6 : Int) (x7 : Int) (x8 : Int) (x9 : Int) (x10 : Bool) (x11 : Int) (x12 : Int) (m : Int) (h0 : 0 ≤ m) (h1 : m % 13 = 10) (hw : -9223372036854775808 ≤ x0) (hs : (0 ≤ x0 ∧ m = x0) ∨ (x0 < 0 ∧ m = -(x0 + 1))) (w : World) :
    Calls Try.prog 9 #[.agg #[.int .i64 x0, .string x1, .string x2, .string x3, .int .i64 x4, .int .i64 x5, .int .i64 x6, .int .i64 x7, .int .i64 x8, .int .i32 x9, .bool x10, .int .i64 x11, .int .i64 x12]] w fun e w' => e = .returned (.iface 57 (.agg #[.string x2, .int .i64 x11, .int .i64 x12])) ∧ Below w.heap.size w w' := by
  have hB := hid (below_alloc (Below.refl w.heap.size w) (.cells #[.int .i64 x0, .string x1, .string x2, .string x3, .int .i64 x4, .int .i64 x5, .int .i64 x6, .int .i64 x7, .int .i64 x8, .int .i32 x9, .bool x10, .int .i64 x11, .int .i64 x12] 23))
  have hx : Hid ((w.alloc (.cells #[.int .i64 x0, .string x1, .string x2, .string x3, .int .i64 x4, .int .i64 x5, .int .i64 x6, .int .i64 x7, .int .i64 x8, .int .i32 x9, .bool x10, .int .i64 x11, .int .i64 x12] 23)).heap[w.heap.size]? = some (.cells #[.int .i64 x0, .string x1, .string x2, .string x3, .int .i64 x4, .int .i64 x5, .int .i64 x6, .int .i64 x7, .int .i64 x8, .int .i32 x9, .bool x10, .int .i64 x11, .int .i64 x12] 23 (0, 0))) := hid Array.getElem?_push_size
  have e1 : x0 < 0 → wrap64 (x0 + 1) = x0 + 1 := fun _ => by unfold wrap64; omega
  have e2 : x0 < 0 → wrap64 (-(x0 + 1)) = -(x0 + 1) := fun _ => by unfold wrap64; omega
  rcases hs with ⟨h2, rfl⟩ | ⟨h2, hm⟩
  · clear e1 e2
    have h3 : ¬ m < 0 := by omega
    go_enter Try.func9, Try.ntmps9
    (try dsimp only [List.append])
    go_upto_region 1 with fail
    generalize w.alloc (.cells #[.int .i64 m, .string x1, .string x2, .string x3, .int .i64 x4, .int .i64 x5, .int .i64 x6, .int .i64 x7, .int .i64 x8, .int .i32 x9, .bool x10, .int .i64 x11, .int .i64 x12] 23) = w1 at *
    have d0 : w1.cell? ⟨w.heap.size, 0, none⟩ = some (.int .i64 m) := (blk_cell hx.out 0).trans rfl
    have d2 : w1.cell? ⟨w.heap.size, 2, none⟩ = some (.string x2) := (blk_cell hx.out 2).trans rfl
    have d11 : w1.cell? ⟨w.heap.size, 11, none⟩ = some (.int .i64 x11) := (blk_cell hx.out 11).trans rfl
    have d12 : w1.cell? ⟨w.heap.size, 12, none⟩ = some (.int .i64 x12) := (blk_cell hx.out 12).trans rfl
    clear hx
    go_wp2_with fail
    go_ret
    exact ⟨rfl, hB.out⟩
  · replace e1 := e1 h2
    replace e2 := e2 h2
    replace hm := hid hm
    go_enter Try.func9, Try.ntmps9
    (try dsimp only [List.append])
    go_upto_region 1 with fail
    generalize w.alloc (.cells #[.int .i64 x0, .string x1, .string x2, .string x3, .int .i64 x4, .int .i64 x5, .int .i64 x6, .int .i64 x7, .int .i64 x8, .int .i32 x9, .bool x10, .int .i64 x11, .int .i64 x12] 23) = w1 at *
    have d0 : w1.cell? ⟨w.heap.size, 0, none⟩ = some (.int .i64 x0) := (blk_cell hx.out 0).trans rfl
    have d2 : w1.cell? ⟨w.heap.size, 2, none⟩ = some (.string x2) := (blk_cell hx.out 2).trans rfl
    have d11 : w1.cell? ⟨w.heap.size, 11, none⟩ = some (.int .i64 x11) := (blk_cell hx.out 11).trans rfl
    have d12 : w1.cell? ⟨w.heap.size, 12, none⟩ = some (.int .i64 x12) := (blk_cell hx.out 12).trans rfl
    clear hx
    go_upto_region 4 with fail
    (try rw [← hm.out])
    clear hm e1 e2 h2
    go_wp2_with fail
    go_ret
    exact ⟨rfl, hB.out⟩
set_option maxHeartbeats 1000000 in
set_option maxRecDepth 100000 in
theorem madeQuota (x0 : Int) (x1 : ByteArray) (x2 : ByteArray) (x3 : ByteArray) (x4 : Int) (x5 : Int) (x6 : Int) (x7 : Int) (x8 : Int) (x9 : Int) (x10 : Bool) (x11 : Int) (x12 : Int) (m : Int) (h0 : 0 ≤ m) (h1 : m % 13 = 11) (hw : -9223372036854775808 ≤ x0) (hs : (0 ≤ x0 ∧ m = x0) ∨ (x0 < 0 ∧ m = -(x0 + 1))) (w : World) :
    Calls Try.prog 9 #[.agg #[.int .i64 x0, .string x1, .string x2, .string x3, .int .i64 x4, .int .i64 x5, .int .i64 x6, .int .i64 x7, .int .i64 x8, .int .i32 x9, .bool x10, .int .i64 x11, .int .i64 x12]] w fun e w' => e = .returned (.iface 65 (.agg #[])) ∧ Below w.heap.size w w' := by
  have hB := hid (below_alloc (Below.refl w.heap.size w) (.cells #[.int .i64 x0, .string x1, .string x2, .string x3, .int .i64 x4, .int .i64 x5, .int .i64 x6, .int .i64 x7, .int .i64 x8, .int .i32 x9, .bool x10, .int .i64 x11, .int .i64 x12] 23))
  have hx : Hid ((w.alloc (.cells #[.int .i64 x0, .string x1, .string x2, .string x3, .int .i64 x4, .int .i64 x5, .int .i64 x6, .int .i64 x7, .int .i64 x8, .int .i32 x9, .bool x10, .int .i64 x11, .int .i64 x12] 23)).heap[w.heap.size]? = some (.cells #[.int .i64 x0, .string x1, .string x2, .string x3, .int .i64 x4, .int .i64 x5, .int .i64 x6, .int .i64 x7, .int .i64 x8, .int .i32 x9, .bool x10, .int .i64 x11, .int .i64 x12] 23 (0, 0))) := hid Array.getElem?_push_size
  have e1 : x0 < 0 → wrap64 (x0 + 1) = x0 + 1 := fun _ => by unfold wrap64; omega
  have e2 : x0 < 0 → wrap64 (-(x0 + 1)) = -(x0 + 1) := fun _ => by unfold wrap64; omega
  rcases hs with ⟨h2, rfl⟩ | ⟨h2, hm⟩
  · clear e1 e2
    have h3 : ¬ m < 0 := by omega
    go_enter Try.func9, Try.ntmps9
    (try dsimp only [List.append])
    go_upto_region 1 with fail
    generalize w.alloc (.cells #[.int .i64 m, .string x1, .string x2, .string x3, .int .i64 x4, .int .i64 x5, .int .i64 x6, .int .i64 x7, .int .i64 x8, .int .i32 x9, .bool x10, .int .i64 x11, .int .i64 x12] 23) = w1 at *
    have d0 : w1.cell? ⟨w.heap.size, 0, none⟩ = some (.int .i64 m) := (blk_cell hx.out 0).trans rfl
    clear hx
    go_wp2_with fail
    go_ret
    exact ⟨rfl, hB.out⟩
  · replace e1 := e1 h2
    replace e2 := e2 h2
    replace hm := hid hm
    go_enter Try.func9, Try.ntmps9
    (try dsimp only [List.append])
    go_upto_region 1 with fail
    generalize w.alloc (.cells #[.int .i64 x0, .string x1, .string x2, .string x3, .int .i64 x4, .int .i64 x5, .int .i64 x6, .int .i64 x7, .int .i64 x8, .int .i32 x9, .bool x10, .int .i64 x11, .int .i64 x12] 23) = w1 at *
    have d0 : w1.cell? ⟨w.heap.size, 0, none⟩ = some (.int .i64 x0) := (blk_cell hx.out 0).trans rfl
    clear hx
    go_upto_region 4 with fail
    (try rw [← hm.out])
    clear hm e1 e2 h2
    go_wp2_with fail
    go_ret
    exact ⟨rfl, hB.out⟩
set_option maxHeartbeats 1000000 in
set_option maxRecDepth 100000 in
theorem madeRotate (x0 : Int) (x1 : ByteArray) (x2 : ByteArray) (x3 : ByteArray) (x4 : Int) (x5 : Int) (x6 : Int) (x7 : Int) (x8 : Int) (x9 : Int) (x10 : Bool) (x11 : Int) (x12 : Int) (m : Int) (h0 : 0 ≤ m) (h1 : m % 13 = 12) (hw : -9223372036854775808 ≤ x0) (hs : (0 ≤ x0 ∧ m = x0) ∨ (x0 < 0 ∧ m = -(x0 + 1))) (w : World) :
    Calls Try.prog 9 #[.agg #[.int .i64 x0, .string x1, .string x2, .string x3, .int .i64 x4, .int .i64 x5, .int .i64 x6, .int .i64 x7, .int .i64 x8, .int .i32 x9, .bool x10, .int .i64 x11, .int .i64 x12]] w fun e w' => e = .returned (.iface 75 (.agg #[])) ∧ Below w.heap.size w w' := by
  have hB := hid (below_alloc (Below.refl w.heap.size w) (.cells #[.int .i64 x0, .string x1, .string x2, .string x3, .int .i64 x4, .int .i64 x5, .int .i64 x6, .int .i64 x7, .int .i64 x8, .int .i32 x9, .bool x10, .int .i64 x11, .int .i64 x12] 23))
  have hx : Hid ((w.alloc (.cells #[.int .i64 x0, .string x1, .string x2, .string x3, .int .i64 x4, .int .i64 x5, .int .i64 x6, .int .i64 x7, .int .i64 x8, .int .i32 x9, .bool x10, .int .i64 x11, .int .i64 x12] 23)).heap[w.heap.size]? = some (.cells #[.int .i64 x0, .string x1, .string x2, .string x3, .int .i64 x4, .int .i64 x5, .int .i64 x6, .int .i64 x7, .int .i64 x8, .int .i32 x9, .bool x10, .int .i64 x11, .int .i64 x12] 23 (0, 0))) := hid Array.getElem?_push_size
  have e1 : x0 < 0 → wrap64 (x0 + 1) = x0 + 1 := fun _ => by unfold wrap64; omega
  have e2 : x0 < 0 → wrap64 (-(x0 + 1)) = -(x0 + 1) := fun _ => by unfold wrap64; omega
  rcases hs with ⟨h2, rfl⟩ | ⟨h2, hm⟩
  · clear e1 e2
    have h3 : ¬ m < 0 := by omega
    go_enter Try.func9, Try.ntmps9
    (try dsimp only [List.append])
    go_upto_region 1 with fail
    generalize w.alloc (.cells #[.int .i64 m, .string x1, .string x2, .string x3, .int .i64 x4, .int .i64 x5, .int .i64 x6, .int .i64 x7, .int .i64 x8, .int .i32 x9, .bool x10, .int .i64 x11, .int .i64 x12] 23) = w1 at *
    have d0 : w1.cell? ⟨w.heap.size, 0, none⟩ = some (.int .i64 m) := (blk_cell hx.out 0).trans rfl
    clear hx
    go_wp2_with fail
    go_ret
    exact ⟨rfl, hB.out⟩
  · replace e1 := e1 h2
    replace e2 := e2 h2
    replace hm := hid hm
    go_enter Try.func9, Try.ntmps9
    (try dsimp only [List.append])
    go_upto_region 1 with fail
    generalize w.alloc (.cells #[.int .i64 x0, .string x1, .string x2, .string x3, .int .i64 x4, .int .i64 x5, .int .i64 x6, .int .i64 x7, .int .i64 x8, .int .i32 x9, .bool x10, .int .i64 x11, .int .i64 x12] 23) = w1 at *
    have d0 : w1.cell? ⟨w.heap.size, 0, none⟩ = some (.int .i64 x0) := (blk_cell hx.out 0).trans rfl
    clear hx
    go_upto_region 4 with fail
    (try rw [← hm.out])
    clear hm e1 e2 h2
    go_wp2_with fail
    go_ret
    exact ⟨rfl, hB.out⟩
end Go.Proofs.Ytfbcidfbgebbhaa.C
