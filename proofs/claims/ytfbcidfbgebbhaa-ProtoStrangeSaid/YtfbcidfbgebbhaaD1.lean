/-
  made, at some places.
-/
import Derived.Test.YtfbcidfbgebbhaaC2
namespace Go.Proofs.Ytfbcidfbgebbhaa.C
set_option linter.unusedVariables false
set_option linter.unusedSimpArgs false
open Go.RowKit Go.Proofs.YtfbcidfbgebbhaaW.PrintWords Go.Proofs.YtfbcidfbgebbhaaW.PrintLast Go.Proofs.YtfbcidfbgebbhaaW.PrintMore
open Go.Lib (hid)
set_option maxHeartbeats 1000000 in
set_option maxRecDepth 100000 in
theorem madeHello (x0 : Int) (x1 : ByteArray) (x2 : ByteArray) (x3 : ByteArray) (x4 : Int) (x5 : Int) (x6 : Int) (x7 : Int) (x8 : Int) (x9 : Int) (x10 : Bool) (x11 : Int) (x12 : Int) (m : Int) (h0 : 0 ≤ m) (h1 : m % 13 = 0) (hw : -9223372036854775808 ≤ x0) (hs : (0 ≤ x0 ∧ m = x0) ∨ (x0 < 0 ∧ m = -(x0 + 1))) (w : World) :
    Calls Try.prog 9 #[.agg #[.int .i64 x0, .string x1, .string x2, .string x3, .int .i64 x4, .int .i64 x5, .int .i64 x6, .int .i64 x7, .int .i64 x8, .int .i32 x9, .bool x10, .int .i64 x11, .int .i64 x12]] w fun e w' => e = .returned (.iface 61 (.agg #[.string x1])) ∧ Below w.heap.size w w' := by
  have hB := hid (below_alloc (Below.refl w.heap.size w) (.cells #[.int .i64 x0, .string x1, .string x2, .string x3, .int .i64 x4, .int .i64 x5, .int .i64 x6, .int .i64 x7, .int .i64 x8, .int .i32 x9, .bool x10, .int .i64 x11, .int .i64 x12] 23))
  have hx : Hid ((w.alloc (.cells #[.int .i64 x0, .string x1, .string x2, .string x3, .int .i64 x4, .int .i64 x5, .int .i64 x6, .int .i64 x7, .int .i64 x8, .int .i32 x9, .bool x10, .int .i64 x11, .int .i64 x12] 23)).heap[w.heap.size]? = some (.cells #[.int .i64 x0, .string x1, .string x2, .string x3, .int .i64 x4, .int .i64 x5, .int .i64 x6, .int .i64 x7, .int .i64 x8, .int .i32 x9, .bool x10, .int .i64 x11, .int .i64 x12] 23 (0, 0))) := hid Array.getElem?_push_size
  have e1 : x0 < 0 → wrap64 (x0 + 1) = x0 + 1 := fun _ => by unfold wrap64; omega
  have e2 : x0 < 0 → wrap64 (-(x0 + 1)) = -(x0 + 1) := fun _ => by unfold wrap64; omega
  rcases hs with ⟨h2, rfl⟩ | ⟨h2, hm⟩
  · clear e1 e2
    have h3 : ¬ m < 0 := by omega
    go_enter Try.func9, Try.ntmps9
    (try dsimp only [List.append])
    go_upto_region 1 with fail
    generalize w.alloc (.cells #[.int .i64 m, .string x1, .string x2, .string x3, .int .i64 x4, .int .i64 x5, .int .i64 x6, .int .i64 x7, .int .i64 x8, .int .i32 x9, .bool x10, .int .i64 x11, .int .i64 x12] 23) = w1 at *
    have d0 : w1.cell? ⟨w.heap.size, 0, none⟩ = some (.int .i64 m) := (blk_cell hx.out 0).trans rfl
    have d1 : w1.cell? ⟨w.heap.size, 1, none⟩ = some (.string x1) := (blk_cell hx.out 1).trans rfl
    clear hx
    go_wp2_with fail
    go_ret
    exact ⟨rfl, hB.out⟩
  · replace e1 := e1 h2
    replace e2 := e2 h2
    replace hm := hid hm
    go_enter Try.func9, Try.ntmps9
    (try dsimp only [List.append])
    go_upto_region 1 with fail
    generalize w.alloc (.cells #[.int .i64 x0, .string x1, .string x2, .string x3, .int .i64 x4, .int .i64 x5, .int .i64 x6, .int .i64 x7, .int .i64 x8, .int .i32 x9, .bool x10, .int .i64 x11, .int .i64 x12] 23) = w1 at *
    have d0 : w1.cell? ⟨w.heap.size, 0, none⟩ = some (.int .i64 x0) := (blk_cell hx.out 0).trans rfl
    have d1 : w1.cell? ⟨w.heap.size, 1, none⟩ = some (.string x1) := (blk_cell hx.out 1).trans rfl
    clear hx
    go_upto_region 4 with fail
    (try rw [← hm.out])
    clear hm e1 e2 h2
    go_wp2_with fail
    go_ret
    exact ⟨rfl, hB.out⟩
set_option maxHeartbeats 1000000 in
set_option maxRecDepth 100000 in
theorem madeRegister (x0 : Int) (x1 : ByteArray) (x2 : ByteArray) (x3 : ByteArray) (x4 : Int) (x5 : Int) (x6 : Int) (x7 : Int) (x8 : Int) (x9 : Int) (x10 : Bool) (x11 : Int) (x12 : Int) (m : Int) (h0 : 0 ≤ m) (h1 : m % 13 = 1) (hw : -9223372036854775808 ≤ x0) (hs : (0 ≤ x0 ∧ m = x0) ∨ (x0 < 0 ∧ m = -(x0 + 1))) (w : World) :
    Calls Try.prog 9 #[.agg #[.int .i64 x0, .string x1, .string x2, .string x3, .int .i64 x4, .int .i64 x5, .int .i64 x6, .int .i64 x7, .int .i64 x8, .int .i32 x9, .bool x10, .int .i64 x11, .int .i64 x12]] w fun e w' => e = .returned (.iface 48 (.agg #[.string x1, .int .i64 x4])) ∧ Below w.heap.size w w' := by
  have hB := hid (below_alloc (Below.refl w.heap.size w) (.cells #[.int .i64 x0, .string x1, .string x2, .string x3, .int .i64 x4, .int .i64 x5, .int .i64 x6, .int .i64 x7, .int .i64 x8, .int .i32 x9, .bool x10, .int .i64 x11, .int .i64 x12] 23))
  have hx : Hid ((w.alloc (.cells #[.int .i64 x0, .string x1, .string x2, .string x3, .int .i64 x4, .int .i64 x5, .int .i64 x6, .int .i64 x7, .int .i64 x8, .int .i32 x9, .bool x10, .int .i64 x11, .int .i64 x12] 23)).heap[w.heap.size]? = some (.cells #[.int .i64 x0, .string x1, .string x2, .string x3, .int .i64 x4, .int .i64 x5, .int .i64 x6, .int .i64 x7, .int .i64 x8, .int .i32 x9, .bool x10, .int .i64 x11, .int .i64 x12] 23 (0, 0))) := hid Array.getElem?_push_size
  have e1 : x0 < 0 → wrap64 (x0 + 1) = x0 + 1 := fun _ => by unfold wrap64; omega
  have e2 : x0 < 0 → wrap64 (-(x0 + 1)) = -(x0 + 1) := fun _ => by unfold wrap64; omega
  rcases hs with ⟨h2, rfl⟩ | ⟨h2, hm⟩
  · clear e1 e2
    have h3 : ¬ m < 0 := by omega
    go_enter Try.func9, Try.ntmps9
    (try dsimp only [List.append])
    go_upto_region 1 with fail
    generalize w.alloc (.cells #[.int .i64 m, .string x1, .string x2, .string x3, .int .i64 x4, .int .i64 x5, .int .i64 x6, .int .i64 x7, .int .i64 x8, .int .i32 x9, .bool x10, .int .i64 x11, .int .i64 x12] 23) = w1 at *
    have d0 : w1.cell? ⟨w.heap.size, 0, none⟩ = some (.int .i64 m) := (blk_cell hx.out 0).trans rfl
    have d1 : w1.cell? ⟨w.heap.size, 1, none⟩ = some (.string x1) := (blk_cell hx.out 1).trans rfl
    have d4 : w1.cell? ⟨w.heap.size, 4, none⟩ = some (.int .i64 x4) := (blk_cell hx.out 4).trans rfl
    clear hx
    go_wp2_with fail
    go_ret
    exact ⟨rfl, hB.out⟩
  · replace e1 := e1 h2
    replace e2 := e2 h2
    replace hm := hid hm
    go_enter Try.func9, Try.ntmps9
    (try dsimp only [List.append])
    go_upto_region 1 with fail
    generalize w.alloc (.cells #[.int .i64 x0, .string x1, .string x2, .string x3, .int .i64 x4, .int .i64 x5, .int .i64 x6, .int .i64 x7, .int .i64 x8, .int .i32 x9, .bool x10, .int .i64 x11, .int .i64 x12] 23) = w1 at *
    have d0 : w1.cell? ⟨w.heap.size, 0, none⟩ = some (.int .i64 x0) := (blk_cell hx.out 0).trans rfl
    have d1 : w1.cell? ⟨w.heap.size, 1, none⟩ = some (.string x1) := (blk_cell hx.out 1).trans rfl
    have d4 : w1.cell? ⟨w.heap.size, 4, none⟩ = some (.int .i64 x4) := (blk_cell hx.out 4).trans rfl
    clear hx
    go_upto_region 4 with fail
    (try rw [← hm.out])
    clear hm e1 e2 h2
    go_wp2_with fail
    go_ret
    exact ⟨rfl, hB.out⟩
set_option maxHeartbeats 1000000 in
set_option maxRecDepth 100000 in
theorem madeMint (x0 : Int) (x1 : ByteArray) (x2 : ByteArray) (x3 : ByteArray) (x4 : Int) (x5 : Int) (x6 : Int) (x7 : Int) (x8 : Int) (x9 : Int) (x10 : Bool) (x11 : Int) (x12 : Int) (m : Int) (h0 : 0 ≤ m) (h1 : m % 13 = 2) (hw : -9223372036854775808 ≤ x0) (hs : (0 ≤ x0 ∧ m = x0) ∨ (x0 < 0 ∧ m = -(x0 + 1))) (w : World) :
    Calls Try.prog 9 #[.agg #[.int .i64 x0, .string x1, .string x2, .string x3, .int .i64 x4, .int .i64 x5, .int .i64 x6, .int .i64 x7, .int .i64 x8, .int .i32 x9, .bool x10, .int .i64 x11, .int .i64 x12]] w fun e w' => e = .returned (.iface 50 (.agg #[.int .i64 x5, .int .i64 x6, .int .i64 x7, .int .i64 x8])) ∧ Below w.heap.size w w' := by
  have hB := hid (below_alloc (Below.refl w.heap.size w) (.cells #[.int .i64 x0, .string x1, .string x2, .string x3, .int .i64 x4, .int .i64 x5, .int .i64 x6, .int .i64 x7, .int .i64 x8, .int .i32 x9, .bool x10, .int .i64 x11, .int .i64 x12] 23))
  have hx : Hid ((w.alloc (.cells #[.int .i64 x0, .string x1, .string x2, .string x3, .int .i64 x4, .int .i64 x5, .int .i64 x6, .int .i64 x7, .int .i64 x8, .int .i32 x9, .bool x10, .int .i64 x11, .int .i64 x12] 23)).heap[w.heap.size]? = some (.cells #[.int .i64 x0, .string x1, .string x2, .string x3, .int .i64 x4, .int .i64 x5, .int .i64 x6, .int .i64 x7, .int .i64 x8, .int .i32 x9, .bool x10, .int .i64 x11, .int .i64 x12] 23 (0, 0))) := hid Array.getElem?_push_size
  have e1 : x0 < 0 → wrap64 (x0 + 1) = x0 + 1 := fun _ => by unfold wrap64; omega
  have e2 : x0 < 0 → wrap64 (-(x0 + 1)) = -(x0 + 1) := fun _ => by unfold wrap64; omega
  rcases hs with ⟨h2, rfl⟩ | ⟨h2, hm⟩
  · clear e1 e2
    have h3 : ¬ m < 0 := by omega
    go_enter Try.func9, Try.ntmps9
    (try dsimp only [List.append])
    go_upto_region 1 with fail
    generalize w.alloc (.cells #[.int .i64 m, .string x1, .string x2, .string x3, .int .i64 x4, .int .i64 x5, .int .i64 x6, .int .i64 x7, .int .i64 x8, .int .i32 x9, .bool x10, .int .i64 x11, .int .i64 x12] 23) = w1 at *
    have d0 : w1.cell? ⟨w.heap.size, 0, none⟩ = some (.int .i64 m) := (blk_cell hx.out 0).trans rfl
    have d5 : w1.cell? ⟨w.heap.size, 5, none⟩ = some (.int .i64 x5) := (blk_cell hx.out 5).trans rfl
    have d6 : w1.cell? ⟨w.heap.size, 6, none⟩ = some (.int .i64 x6) := (blk_cell hx.out 6).trans rfl
    have d7 : w1.cell? ⟨w.heap.size, 7, none⟩ = some (.int .i64 x7) := (blk_cell hx.out 7).trans rfl
    have d8 : w1.cell? ⟨w.heap.size, 8, none⟩ = some (.int .i64 x8) := (blk_cell hx.out 8).trans rfl
    clear hx
    go_wp2_with fail
    go_ret
    exact ⟨rfl, hB.out⟩
  · replace e1 := e1 h2
    replace e2 := e2 h2
    replace hm := hid hm
    go_enter Try.func9, Try.ntmps9
    (try dsimp only [List.append])
    go_upto_region 1 with fail
    generalize w.alloc (.cells #[.int .i64 x0, .string x1, .string x2, .string x3, .int .i64 x4, .int .i64 x5, .int .i64 x6, .int .i64 x7, .int .i64 x8, .int .i32 x9, .bool x10, .int .i64 x11, .int .i64 x12] 23) = w1 at *
    have d0 : w1.cell? ⟨w.heap.size, 0, none⟩ = some (.int .i64 x0) := (blk_cell hx.out 0).trans rfl
    have d5 : w1.cell? ⟨w.heap.size, 5, none⟩ = some (.int .i64 x5) := (blk_cell hx.out 5).trans rfl
    have d6 : w1.cell? ⟨w.heap.size, 6, none⟩ = some (.int .i64 x6) := (blk_cell hx.out 6).trans rfl
    have d7 : w1.cell? ⟨w.heap.size, 7, none⟩ = some (.int .i64 x7) := (blk_cell hx.out 7).trans rfl
    have d8 : w1.cell? ⟨w.heap.size, 8, none⟩ = some (.int .i64 x8) := (blk_cell hx.out 8).trans rfl
    clear hx
    go_upto_region 4 with fail
    (try rw [← hm.out])
    clear hm e1 e2 h2
    go_wp2_with fail
    go_ret
    exact ⟨rfl, hB.out⟩
set_option maxHeartbeats 1000000 in
set_option maxRecDepth 100000 in
theorem madeDerive (x0 : Int) (x1 : ByteArray) (x2 : ByteArray) (x3 : ByteArray) (x4 : Int) (x5 : Int) (x6 : Int) (x7 : Int) (x8 : Int) (x9 : Int) (x10 : Bool) (x11 : Int) (x12 : Int) (m : Int) (h0 : 0 ≤ m) (h1 : m % 13 = 3) (hw : -9223372036854775808 ≤ x0) (hs : (0 ≤ x0 ∧ m = x0) ∨ (x0 < 0 ∧ m = -(x0 + 1))) (w : World) :
    Calls Try.prog 9 #[.agg #[.int .i64 x0, .string x1, .string x2, .string x3, .int .i64 x4, .int .i64 x5, .int .i64 x6, .int .i64 x7, .int .i64 x8, .int .i32 x9, .bool x10, .int .i64 x11, .int .i64 x12]] w fun e w' => e = .returned (.iface 69 (.agg #[.string x2, .string x1, .int .i64 x6, .int .i64 x7, .int .i64 x8])) ∧ Below w.heap.size w w' := by
  have hB := hid (below_alloc (Below.refl w.heap.size w) (.cells #[.int .i64 x0, .string x1, .string x2, .string x3, .int .i64 x4, .int .i64 x5, .int .i64 x6, .int .i64 x7, .int .i64 x8, .int .i32 x9, .bool x10, .int .i64 x11, .int .i64 x12] 23))
  have hx : Hid ((w.alloc (.cells #[.int .i64 x0, .string x1, .string x2, .string x3, .int .i64 x4, .int .i64 x5, .int .i64 x6, .int .i64 x7, .int .i64 x8, .int .i32 x9, .bool x10, .int .i64 x11, .int .i64 x12] 23)).heap[w.heap.size]? = some (.cells #[.int .i64 x0, .string x1, .string x2, .string x3, .int .i64 x4, .int .i64 x5, .int .i64 x6, .int .i64 x7, .int .i64 x8, .int .i32 x9, .bool x10, .int .i64 x11, .int .i64 x12] 23 (0, 0))) := hid Array.getElem?_push_size
  have e1 : x0 < 0 → wrap64 (x0 + 1) = x0 + 1 := fun _ => by unfold wrap64; omega
  have e2 : x0 < 0 → wrap64 (-(x0 + 1)) = -(x0 + 1) := fun _ => by unfold wrap64; omega
  rcases hs with ⟨h2, rfl⟩ | ⟨h2, hm⟩
  · clear e1 e2
    have h3 : ¬ m < 0 := by omega
    go_enter Try.func9, Try.ntmps9
    (try dsimp only [List.append])
    go_upto_region 1 with fail
    generalize w.alloc (.cells #[.int .i64 m, .string x1, .string x2, .string x3, .int .i64 x4, .int .i64 x5, .int .i64 x6, .int .i64 x7, .int .i64 x8, .int .i32 x9, .bool x10, .int .i64 x11, .int .i64 x12] 23) = w1 at *
    have d0 : w1.cell? ⟨w.heap.size, 0, none⟩ = some (.int .i64 m) := (blk_cell hx.out 0).trans rfl
    have d1 : w1.cell? ⟨w.heap.size, 1, none⟩ = some (.string x1) := (blk_cell hx.out 1).trans rfl
    have d2 : w1.cell? ⟨w.heap.size, 2, none⟩ = some (.string x2) := (blk_cell hx.out 2).trans rfl
    have d6 : w1.cell? ⟨w.heap.size, 6, none⟩ = some (.int .i64 x6) := (blk_cell hx.out 6).trans rfl
    have d7 : w1.cell? ⟨w.heap.size, 7, none⟩ = some (.int .i64 x7) := (blk_cell hx.out 7).trans rfl
    have d8 : w1.cell? ⟨w.heap.size, 8, none⟩ = some (.int .i64 x8) := (blk_cell hx.out 8).trans rfl
    clear hx
    go_wp2_with fail
    go_ret
    exact ⟨rfl, hB.out⟩
  · replace e1 := e1 h2
    replace e2 := e2 h2
    replace hm := hid hm
    go_enter Try.func9, Try.ntmps9
    (try dsimp only [List.append])
    go_upto_region 1 with fail
    generalize w.alloc (.cells #[.int .i64 x0, .string x1, .string x2, .string x3, .int .i64 x4, .int .i64 x5, .int .i64 x6, .int .i64 x7, .int .i64 x8, .int .i32 x9, .bool x10, .int .i64 x11, .int .i64 x12] 23) = w1 at *
    have d0 : w1.cell? ⟨w.heap.size, 0, none⟩ = some (.int .i64 x0) := (blk_cell hx.out 0).trans rfl
    have d1 : w1.cell? ⟨w.heap.size, 1, none⟩ = some (.string x1) := (blk_cell hx.out 1).trans rfl
    have d2 : w1.cell? ⟨w.heap.size, 2, none⟩ = some (.string x2) := (blk_cell hx.out 2).trans rfl
    have d6 : w1.cell? ⟨w.heap.size, 6, none⟩ = some (.int .i64 x6) := (blk_cell hx.out 6).trans rfl
    have d7 : w1.cell? ⟨w.heap.size, 7, none⟩ = some (.int .i64 x7) := (blk_cell hx.out 7).trans rfl
    have d8 : w1.cell? ⟨w.heap.size, 8, none⟩ = some (.int .i64 x8) := (blk_cell hx.out 8).trans rfl
    clear hx
    go_upto_region 4 with fail
    (try rw [← hm.out])
    clear hm e1 e2 h2
    go_wp2_with fail
    go_ret
    exact ⟨rfl, hB.out⟩
set_option maxHeartbeats 1000000 in
set_option maxRecDepth 100000 in
theorem madeRenew (x0 : Int) (x1 : ByteArray) (x2 : ByteArray) (x3 : ByteArray) (x4 : Int) (x5 : Int) (x6 : Int) (x7 : Int) (x8 : Int) (x9 : Int) (x10 : Bool) (x11 : Int) (x12 : Int) (m : Int) (h0 : 0 ≤ m) (h1 : m % 13 = 4) (hw : -9223372036854775808 ≤ x0) (hs : (0 ≤ x0 ∧ m = x0) ∨ (x0 < 0 ∧ m = -(x0 + 1))) (w : World) :
    Calls Try.prog 9 #[.agg #[.int .i64 x0, .string x1, .string x2, .string x3, .int .i64 x4, .int .i64 x5, .int .i64 x6, .int .i64 x7, .int .i64 x8, .int .i32 x9, .bool x10, .int .i64 x11, .int .i64 x12]] w fun e w' => e = .returned (.iface 59 (.agg #[.string x2, .int .i64 x8])) ∧ Below w.heap.size w w' := by
  have hB := hid (below_alloc (Below.refl w.heap.size w) (.cells #[.int .i64 x0, .string x1, .string x2, .string x3, .int .i64 x4, .int .i64 x5, .int .i64 x6, .int .i64 x7, .int .i64 x8, .int .i32 x9, .bool x10, .int .i64 x11, .int .i64 x12] 23))
  have hx : Hid ((w.alloc (.cells #[.int .i64 x0, .string x1, .string x2, .string x3, .int .i64 x4, .int .i64 x5, .int .i64 x6, .int .i64 x7, .int .i64 x8, .int .i32 x9, .bool x10, .int .i64 x11, .int .i64 x12] 23)).heap[w.heap.size]? = some (.cells #[.int .i64 x0, .string x1, .string x2, .string x3, .int .i64 x4, .int .i64 x5, .int .i64 x6, .int .i64 x7, .int .i64 x8, .int .i32 x9, .bool x10, .int .i64 x11, .int .i64 x12] 23 (0, 0))) := hid Array.getElem?_push_size
  have e1 : x0 < 0 → wrap64 (x0 + 1) = x0 + 1 := fun _ => by unfold wrap64; omega
  have e2 : x0 < 0 → wrap64 (-(x0 + 1)) = -(x0 + 1) := fun _ => by unfold wrap64; omega
  rcases hs with ⟨h2, rfl⟩ | ⟨h2, hm⟩
  · clear e1 e2
    have h3 : ¬ m < 0 := by omega
    go_enter Try.func9, Try.ntmps9
    (try dsimp only [List.append])
    go_upto_region 1 with fail
    generalize w.alloc (.cells #[.int .i64 m, .string x1, .string x2, .string x3, .int .i64 x4, .int .i64 x5, .int .i64 x6, .int .i64 x7, .int .i64 x8, .int .i32 x9, .bool x10, .int .i64 x11, .int .i64 x12] 23) = w1 at *
    have d0 : w1.cell? ⟨w.heap.size, 0, none⟩ = some (.int .i64 m) := (blk_cell hx.out 0).trans rfl
    have d2 : w1.cell? ⟨w.heap.size, 2, none⟩ = some (.string x2) := (blk_cell hx.out 2).trans rfl
    have d8 : w1.cell? ⟨w.heap.size, 8, none⟩ = some (.int .i64 x8) := (blk_cell hx.out 8).trans rfl
    clear hx
    go_wp2_with fail
    go_ret
    exact ⟨rfl, hB.out⟩
  · replace e1 := e1 h2
    replace e2 := e2 h2
    replace hm := hid hm
    go_enter Try.func9, Try.ntmps9
    (try dsimp only [List.append])
    go_upto_region 1 with fail
    generalize w.alloc (.cells #[.int .i64 x0, .string x1, .string x2, .string x3, .int .i64 x4, .int .i64 x5, .int .i64 x6, .int .i64 x7, .int .i64 x8, .int .i32 x9, .bool x10, .int .i64 x11, .int .i64 x12] 23) = w1 at *
    have d0 : w1.cell? ⟨w.heap.size, 0, none⟩ = some (.int .i64 x0) := (blk_cell hx.out 0).trans rfl
    have d2 : w1.cell? ⟨w.heap.size, 2, none⟩ = some (.string x2) := (blk_cell hx.out 2).trans rfl
    have d8 : w1.cell? ⟨w.heap.size, 8, none⟩ = some (.int .i64 x8) := (blk_cell hx.out 8).trans rfl
    clear hx
    go_upto_region 4 with fail
    (try rw [← hm.out])
    clear hm e1 e2 h2
    go_wp2_with fail
    go_ret
    exact ⟨rfl, hB.out⟩
end Go.Proofs.Ytfbcidfbgebbhaa.C
