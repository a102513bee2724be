/-
  The walk of the law ProtoStrange.
-/
import Derived.Test.YtfbcidfbgebbhaaE3
namespace Go.Proofs.Ytfbcidfbgebbhaa.Pure
set_option linter.unusedVariables false
set_option linter.unusedSimpArgs false
open Go.RowKit Go.Proofs.YtfbcidfbgebbhaaW.PrintWords Go.Proofs.YtfbcidfbgebbhaaW.PrintLast Go.Proofs.YtfbcidfbgebbhaaW.PrintMore
open Go.Proofs.Ytfbcidfbgebbhaa.Q
open Go.Lib (hid)
theorem join3_ {P : Program} {md : Region.Mode} {ops : Array Oper} {Q : Exit → Act → World → Prop} {S S3 : World → Prop} {σ : Type} {fuel : Nat} {l : Array Bool} {a : Act} {w : World} (fuel' : Nat) (l' : Array Bool) (ns : σ → List (Tmp × Value)) (w3 : World)
    (hcont : ∀ s, wpAnyLast P md ops Q S3 [] fuel' l' (putAll a (ns s)) w3)
    (h : (∀ s, wpAnyLast P md ops Q S3 [] fuel' l' (putAll a (ns s)) w3) → wpAnyLast P md ops Q S [] fuel l a w) : wpAnyLast P md ops Q S [] fuel l a w := h hcont
theorem heap_keep {w : World} {g : Nat} {o : Obj} (h : w.heap[g]? = some o) (x : Obj) : (w.alloc x).heap[g]? = some o := ((below_alloc (Below.refl _ w) x).block g (blk_lt h)).trans h
set_option maxHeartbeats 2000000 in
set_option maxRecDepth 100000 in
theorem ProtoStrange_walk (x0 : Int) (x1 : ByteArray) (x2 : ByteArray) (x3 : ByteArray) (x4 : Int) (x5 : Int) (x6 : Int) (x7 : Int) (x8 : Int) (x9 : Int) (x10 : Bool) (x11 : Int) (x12 : Int) (far : Int) (W : World) (w0_0 : (Lit.int IntKind.i64 x0).wf = true) (w0_1 : x1.size ≤ 140737488351232) (w0_2 : x2.size ≤ 140737488351232) (w0_3 : x3.size ≤ 140737488351232) (w0_4 : (Lit.int IntKind.i64 x4).wf = true) (w0_5 : (Lit.int IntKind.i64 x5).wf = true) (w0_6 : (Lit.int IntKind.i64 x6).wf = true) (w0_7 : (Lit.int IntKind.i64 x7).wf = true) (w0_8 : (Lit.int IntKind.i64 x8).wf = true) (w0_9 : (Lit.int IntKind.i32 x9).wf = true) (w0_11 : (Lit.int IntKind.i64 x11).wf = true) (w0_12 : (Lit.int IntKind.i64 x12).wf = true) (w1 : (Lit.int IntKind.i64 far).wf = true) :
    Calls Try.prog 7 #[.agg #[.int .i64 x0, .string x1, .string x2, .string x3, .int .i64 x4, .int .i64 x5, .int .i64 x6, .int .i64 x7, .int .i64 x8, .int .i32 x9, .bool x10, .int .i64 x11, .int .i64 x12], .int .i64 far] W fun r W' => r = .returned (.bool true) ∧ Below W.heap.size W W' := by
  have hB := hid (below_alloc (Below.refl W.heap.size W) (.cells #[.int .i64 x0, .string x1, .string x2, .string x3, .int .i64 x4, .int .i64 x5, .int .i64 x6, .int .i64 x7, .int .i64 x8, .int .i32 x9, .bool x10, .int .i64 x11, .int .i64 x12] 23))
  have hx : Hid ((W.alloc (.cells #[.int .i64 x0, .string x1, .string x2, .string x3, .int .i64 x4, .int .i64 x5, .int .i64 x6, .int .i64 x7, .int .i64 x8, .int .i32 x9, .bool x10, .int .i64 x11, .int .i64 x12] 23)).heap[W.heap.size]? = some (.cells #[.int .i64 x0, .string x1, .string x2, .string x3, .int .i64 x4, .int .i64 x5, .int .i64 x6, .int .i64 x7, .int .i64 x8, .int .i32 x9, .bool x10, .int .i64 x11, .int .i64 x12] 23 (0, 0))) := hid Array.getElem?_push_size
  have hX := hid (fun V => A.examples.calls V)
  have hmk := make29
  have hf := bounds_i64 w1
  have hcat : ¬ (9223372036854775807 < x1.size + 1) := by have := w0_1; omega
  have h0 := place_le far
  have hs := place_hs far
  have e1 : far < 0 → wrap64 (far + 1) = far + 1 := fun _ => by unfold wrap64; omega
  have e2 : far < 0 → wrap64 (-(far + 1)) = -(far + 1) := fun _ => by unfold wrap64; omega
  have hm1 : placeOf far ≤ 9223372036854775807 := by omega
  generalize placeOf far = m at *
  clear hf
  obtain ⟨g0, hg0⟩ : ∃ g, g = W.heap.size := ⟨_, rfl⟩
  replace hg0 := hid hg0
  go_enter Try.func7, Try.ntmps7
  (try dsimp only [List.append])
  go_upto_region 1 with fail
  generalize W.alloc (.cells #[.int .i64 x0, .string x1, .string x2, .string x3, .int .i64 x4, .int .i64 x5, .int .i64 x6, .int .i64 x7, .int .i64 x8, .int .i32 x9, .bool x10, .int .i64 x11, .int .i64 x12] 23) = wa1 at *
  go_upto_region 4 with (first | ((with_reducible refine Calls.mono (hX.out _) ?_); rintro r w2 ⟨rfl, hb2⟩; replace hx := hid ((hb2.block _ (blk_lt hx.out)).trans hx.out); replace hb2 := hid (below_then hB.out hB.out.size hb2)))
  have c1 := hid ((blk_cell hx.out 1).trans rfl : w2.cell? ⟨W.heap.size, 1, none⟩ = some (.string x1))
  clear hx hX hB
  go_upto_if 16 with fail
  go_cut [1] (fun s1 wx => s1 = .int .i64 m ∧ w2 = wx)
  case first =>
    rcases hs with ⟨h2, rfl⟩ | ⟨h2, hm⟩
    · have h3 : ¬ m < 0 := by omega
      clear e1 e2
      go_wp2_with fail
      go_meet
      exact ⟨rfl, rfl⟩
    · replace e1 := e1 h2
      replace e2 := e2 h2
      replace hm := hid hm
      go_wp2_with fail
      go_meet
      exact ⟨by rw [hm.out, e2], rfl⟩
  case rest =>
    obtain ⟨rfl, rfl⟩ := hcut
    clear e1 e2 hs
    go_upto_region 6 with fail
    go_cut [6] (fun s6 wy => ∃ (c : Nat) (n0 n1 n3 n4 n6 n7 n8 : Int), s6 = .slice (some ⟨c, 0, none⟩) 10 10 ∧ 1000 < n0 ∧ n1 < 0 ∧ 65536 ≤ n3 ∧ n4 < 0 ∧ 113 ≤ n6 ∧ 10 < n7 ∧ 268435455 < n8 ∧ wy.heap[c]? = some (.cells #[.iface 48 (.agg #[.string ⟨#[97]⟩, .int .i64 n0]), .iface 48 (.agg #[.string ⟨#[97]⟩, .int .i64 n1]), .iface 50 (.agg #[.int .i64 0, .int .i64 1, .int .i64 0, .int .i64 0]), .iface 50 (.agg #[.int .i64 1, .int .i64 n3, .int .i64 0, .int .i64 0]), .iface 50 (.agg #[.int .i64 1, .int .i64 0, .int .i64 n4, .int .i64 0]), .iface 52 (.agg #[.string ⟨#[115, 104, 111, 114, 116]⟩]), .iface 55 (.agg #[.string z29, .int .i32 n6]), .iface 57 (.agg #[.string z29, .int .i64 0, .int .i64 n7]), .iface 59 (.agg #[.string z29, .int .i64 n8]), .iface 61 (.agg #[.string (x1 ++ ⟨#[46]⟩)])] 20 (0, 0)) ∧ Below w2.heap.size w2 wy)
    case first =>
      obtain ⟨wA0, hA0⟩ : ∃ w, (w2.alloc (.cells (madeCells #[.int .u8 0] 29) 5)).drew = w := ⟨_, rfl⟩
      obtain ⟨wA1, hA1⟩ : ∃ w, wA0.alloc (.cells (madeCells #[.int .u8 0] 29) 5) = w := ⟨_, rfl⟩
      obtain ⟨wA2, hA2⟩ : ∃ w, wA1.alloc (.cells (madeCells #[.int .u8 0] 29) 5) = w := ⟨_, rfl⟩
      have hZ0 : Hid (wA0.heap[w2.heap.size]? = some (.cells (madeCells #[.int .u8 0] 29) 5 (0, 0))) := hid (by rw [← hA0]; exact Array.getElem?_push_size)
      have hZ1 : Hid (wA1.heap[wA0.heap.size]? = some (.cells (madeCells #[.int .u8 0] 29) 5 (0, 0))) := hid (by rw [← hA1]; exact Array.getElem?_push_size)
      have hZ2 : Hid (wA2.heap[wA1.heap.size]? = some (.cells (madeCells #[.int .u8 0] 29) 5 (0, 0))) := hid (by rw [← hA2]; exact Array.getElem?_push_size)
      have k01 : Hid (wA1.heap[w2.heap.size]? = some (.cells (madeCells #[.int .u8 0] 29) 5 (0, 0))) := hid (by rw [← hA1]; exact heap_keep hZ0.out _)
      have k02 : Hid (wA2.heap[w2.heap.size]? = some (.cells (madeCells #[.int .u8 0] 29) 5 (0, 0))) := hid (by rw [← hA2]; exact heap_keep k01.out _)
      have k12 : Hid (wA2.heap[wA0.heap.size]? = some (.cells (madeCells #[.int .u8 0] 29) 5 (0, 0))) := hid (by rw [← hA2]; exact heap_keep hZ1.out _)
      have B0 : Hid (Below w2.heap.size w2 wA0) := hid (by rw [← hA0]; exact below_drew (below_alloc (Below.refl _ _) _))
      have B1 : Hid (Below w2.heap.size w2 wA1) := hid (by rw [← hA1]; exact below_alloc B0.out _)
      have B2 : Hid (Below w2.heap.size w2 wA2) := hid (by rw [← hA2]; exact below_alloc B1.out _)
      replace hA0 := hid hA0
      replace hA1 := hid hA1
      replace hA2 := hid hA2
      refine start_ (n := 53) (S := fun w' => Below w2.heap.size w2 w') (ds := []) #[false, false, false, false, false, false, false, false, false, false, false, false, false, false, false, false, false, false, false, false, false, false, false, false, false, false, false, false, false, false, false, false, false, false, false, false, false, false, false, false, false, false, false, false, false, false, false, false, false, false, false, false, false] (by kernel_rfl) rfl rfl (below_drew (Below.refl _ _)) (fun hHeld => ?_)
      refine pure_ (i := 0) (N := some 20) (v := ?_) (a' := ?_) #[true, false, false, false, false, false, false, false, false, false, false, false, false, false, false, false, false, false, false, false, false, false, false, false, false, false, false, false, false, false, false, false, false, false, false, false, false, false, false, false, false, false, false, false, false, false, false, false, false, false, false, false, false] rfl rfl (by kernel_rfl) (fun _ _ _ h => h) (Or.inl ⟨by rfl, ?_⟩) ?_ ?_
      rotate_left
      · intro w'
        go_simp
        with_reducible rfl
      rotate_left
      · simp only [Act.put, List.setIfInBounds_toArray, List.set_cons_zero, List.set_cons_succ, i64_w, i32_w]
        rfl
      refine pure_ (i := 1) (N := some 21) (v := ?_) (a' := ?_) #[true, true, false, false, false, false, false, false, false, false, false, false, false, false, false, false, false, false, false, false, false, false, false, false, false, false, false, false, false, false, false, false, false, false, false, false, false, false, false, false, false, false, false, false, false, false, false, false, false, false, false, false, false] rfl rfl (by kernel_rfl) (fun _ _ _ h => h) (Or.inl ⟨by rfl, ?_⟩) ?_ ?_
      rotate_left
      · intro w'
        go_simp
        with_reducible rfl
      rotate_left
      · simp only [Act.put, List.setIfInBounds_toArray, List.set_cons_zero, List.set_cons_succ, i64_w, i32_w]
        rfl
      refine pure_ (i := 2) (N := some 22) (v := ?_) (a' := ?_) #[true, true, true, false, false, false, false, false, false, false, false, false, false, false, false, false, false, false, false, false, false, false, false, false, false, false, false, false, false, false, false, false, false, false, false, false, false, false, false, false, false, false, false, false, false, false, false, false, false, false, false, false, false] rfl rfl (by kernel_rfl) (fun _ _ _ h => h) (Or.inl ⟨by rfl, ?_⟩) ?_ ?_
      rotate_left
      · intro w'
        go_simp
        with_reducible rfl
      rotate_left
      · simp only [Act.put, List.setIfInBounds_toArray, List.set_cons_zero, List.set_cons_succ, i64_w, i32_w]
        rfl
      refine pure_ (i := 3) (N := some 23) (v := ?_) (a' := ?_) #[true, true, true, true, false, false, false, false, false, false, false, false, false, false, false, false, false, false, false, false, false, false, false, false, false, false, false, false, false, false, false, false, false, false, false, false, false, false, false, false, false, false, false, false, false, false, false, false, false, false, false, false, false] rfl rfl (by kernel_rfl) (fun _ _ _ h => h) (Or.inl ⟨by rfl, ?_⟩) ?_ ?_
      rotate_left
      · intro w'
        go_simp
        with_reducible rfl
      rotate_left
      · simp only [Act.put, List.setIfInBounds_toArray, List.set_cons_zero, List.set_cons_succ, i64_w, i32_w]
        rfl
      refine pure_ (i := 4) (N := some 24) (v := ?_) (a' := ?_) #[true, true, true, true, true, false, false, false, false, false, false, false, false, false, false, false, false, false, false, false, false, false, false, false, false, false, false, false, false, false, false, false, false, false, false, false, false, false, false, false, false, false, false, false, false, false, false, false, false, false, false, false, false] rfl rfl (by kernel_rfl) (fun _ _ _ h => h) (Or.inl ⟨by rfl, ?_⟩) ?_ ?_
      rotate_left
      · intro w'
        go_simp
        with_reducible rfl
      rotate_left
      · simp only [Act.put, List.setIfInBounds_toArray, List.set_cons_zero, List.set_cons_succ, i64_w, i32_w]
        rfl
      refine pure_ (i := 5) (N := some 25) (v := ?_) (a' := ?_) #[true, true, true, true, true, true, false, false, false, false, false, false, false, false, false, false, false, false, false, false, false, false, false, false, false, false, false, false, false, false, false, false, false, false, false, false, false, false, false, false, false, false, false, false, false, false, false, false, false, false, false, false, false] rfl rfl (by kernel_rfl) (fun _ _ _ h => h) (Or.inl ⟨by rfl, ?_⟩) ?_ ?_
      rotate_left
      · intro w'
        go_simp
        with_reducible rfl
      rotate_left
      · simp only [Act.put, List.setIfInBounds_toArray, List.set_cons_zero, List.set_cons_succ, i64_w, i32_w]
        rfl
      refine pure_ (i := 6) (N := some 26) (v := ?_) (a' := ?_) #[true, true, true, true, true, true, true, false, false, false, false, false, false, false, false, false, false, false, false, false, false, false, false, false, false, false, false, false, false, false, false, false, false, false, false, false, false, false, false, false, false, false, false, false, false, false, false, false, false, false, false, false, false] rfl rfl (by kernel_rfl) (fun _ _ _ h => h) (Or.inl ⟨by rfl, ?_⟩) ?_ ?_
      rotate_left
      · intro w'
        go_simp
        with_reducible rfl
      rotate_left
      · simp only [Act.put, List.setIfInBounds_toArray, List.set_cons_zero, List.set_cons_succ, i64_w, i32_w]
        rfl
      refine pure_ (i := 7) (N := some 27) (v := ?_) (a' := ?_) #[true, true, true, true, true, true, true, true, false, false, false, false, false, false, false, false, false, false, false, false, false, false, false, false, false, false, false, false, false, false, false, false, false, false, false, false, false, false, false, false, false, false, false, false, false, false, false, false, false, false, false, false, false] rfl rfl (by kernel_rfl) (fun _ _ _ h => h) (Or.inl ⟨by rfl, ?_⟩) ?_ ?_
      rotate_left
      · intro w'
        go_simp
        with_reducible rfl
      rotate_left
      · simp only [Act.put, List.setIfInBounds_toArray, List.set_cons_zero, List.set_cons_succ, i64_w, i32_w]
        rfl
      refine pure_ (i := 8) (N := some 28) (v := ?_) (a' := ?_) #[true, true, true, true, true, true, true, true, true, false, false, false, false, false, false, false, false, false, false, false, false, false, false, false, false, false, false, false, false, false, false, false, false, false, false, false, false, false, false, false, false, false, false, false, false, false, false, false, false, false, false, false, false] rfl rfl (by kernel_rfl) (fun _ _ _ h => h) (Or.inl ⟨by rfl, ?_⟩) ?_ ?_
      rotate_left
      · intro w'
        go_simp
        with_reducible rfl
      rotate_left
      · simp only [Act.put, List.setIfInBounds_toArray, List.set_cons_zero, List.set_cons_succ, i64_w, i32_w]
        rfl
      refine pure_ (i := 9) (N := some 29) (v := ?_) (a' := ?_) #[true, true, true, true, true, true, true, true, true, true, false, false, false, false, false, false, false, false, false, false, false, false, false, false, false, false, false, false, false, false, false, false, false, false, false, false, false, false, false, false, false, false, false, false, false, false, false, false, false, false, false, false, false] rfl rfl (by kernel_rfl) (fun _ _ _ h => h) (Or.inl ⟨by rfl, ?_⟩) ?_ ?_
      rotate_left
      · intro w'
        go_simp
        with_reducible rfl
      rotate_left
      · simp only [Act.put, List.setIfInBounds_toArray, List.set_cons_zero, List.set_cons_succ, i64_w, i32_w]
        rfl
      refine pure_ (i := 10) (N := some 30) (v := ?_) (a' := ?_) #[true, true, true, true, true, true, true, true, true, true, true, false, false, false, false, false, false, false, false, false, false, false, false, false, false, false, false, false, false, false, false, false, false, false, false, false, false, false, false, false, false, false, false, false, false, false, false, false, false, false, false, false, false] rfl rfl (by kernel_rfl) (fun _ _ _ h => h) (Or.inl ⟨by rfl, ?_⟩) ?_ ?_
      rotate_left
      · intro w'
        go_simp
        with_reducible rfl
      rotate_left
      · simp only [Act.put, List.setIfInBounds_toArray, List.set_cons_zero, List.set_cons_succ, i64_w, i32_w]
        rfl
      refine pure_ (i := 11) (N := some 31) (v := ?_) (a' := ?_) #[true, true, true, true, true, true, true, true, true, true, true, true, false, false, false, false, false, false, false, false, false, false, false, false, false, false, false, false, false, false, false, false, false, false, false, false, false, false, false, false, false, false, false, false, false, false, false, false, false, false, false, false, false] rfl rfl (by kernel_rfl) (fun _ _ _ h => h) (Or.inl ⟨by rfl, ?_⟩) ?_ ?_
      rotate_left
      · intro w'
        go_simp
        with_reducible rfl
      rotate_left
      · simp only [Act.put, List.setIfInBounds_toArray, List.set_cons_zero, List.set_cons_succ, i64_w, i32_w]
        rfl
      refine pure_ (i := 12) (N := some 32) (v := ?_) (a' := ?_) #[true, true, true, true, true, true, true, true, true, true, true, true, true, false, false, false, false, false, false, false, false, false, false, false, false, false, false, false, false, false, false, false, false, false, false, false, false, false, false, false, false, false, false, false, false, false, false, false, false, false, false, false, false] rfl rfl (by kernel_rfl) (fun _ _ _ h => h) (Or.inl ⟨by rfl, ?_⟩) ?_ ?_
      rotate_left
      · intro w'
        go_simp
        with_reducible rfl
      rotate_left
      · simp only [Act.put, List.setIfInBounds_toArray, List.set_cons_zero, List.set_cons_succ, i64_w, i32_w]
        rfl
      refine pure_ (i := 13) (N := some 33) (v := ?_) (a' := ?_) #[true, true, true, true, true, true, true, true, true, true, true, true, true, true, false, false, false, false, false, false, false, false, false, false, false, false, false, false, false, false, false, false, false, false, false, false, false, false, false, false, false, false, false, false, false, false, false, false, false, false, false, false, false] rfl rfl (by kernel_rfl) (fun _ _ _ h => h) (Or.inl ⟨by rfl, ?_⟩) ?_ ?_
      rotate_left
      · intro w'
        go_simp
        with_reducible rfl
      rotate_left
      · simp only [Act.put, List.setIfInBounds_toArray, List.set_cons_zero, List.set_cons_succ, i64_w, i32_w]
        rfl
      refine pure_ (i := 14) (N := some 34) (v := ?_) (a' := ?_) #[true, true, true, true, true, true, true, true, true, true, true, true, true, true, true, false, false, false, false, false, false, false, false, false, false, false, false, false, false, false, false, false, false, false, false, false, false, false, false, false, false, false, false, false, false, false, false, false, false, false, false, false, false] rfl rfl (by kernel_rfl) (fun _ _ _ h => h) (Or.inl ⟨by rfl, ?_⟩) ?_ ?_
      rotate_left
      · intro w'
        go_simp
        with_reducible rfl
      rotate_left
      · simp only [Act.put, List.setIfInBounds_toArray, List.set_cons_zero, List.set_cons_succ, i64_w, i32_w]
        rfl
      refine pure_ (i := 15) (N := some 35) (v := ?_) (a' := ?_) #[true, true, true, true, true, true, true, true, true, true, true, true, true, true, true, true, false, false, false, false, false, false, false, false, false, false, false, false, false, false, false, false, false, false, false, false, false, false, false, false, false, false, false, false, false, false, false, false, false, false, false, false, false] rfl rfl (by kernel_rfl) (fun _ _ _ h => h) (Or.inl ⟨by rfl, ?_⟩) ?_ ?_
      rotate_left
      · intro w'
        go_simp
        with_reducible rfl
      rotate_left
      · simp only [Act.put, List.setIfInBounds_toArray, List.set_cons_zero, List.set_cons_succ, i64_w, i32_w]
        rfl
      refine pure_ (i := 16) (N := some 36) (v := ?_) (a' := ?_) #[true, true, true, true, true, true, true, true, true, true, true, true, true, true, true, true, true, false, false, false, false, false, false, false, false, false, false, false, false, false, false, false, false, false, false, false, false, false, false, false, false, false, false, false, false, false, false, false, false, false, false, false, false] rfl rfl (by kernel_rfl) (fun _ _ _ h => h) (Or.inl ⟨by rfl, ?_⟩) ?_ ?_
      rotate_left
      · intro w'
        go_simp
        with_reducible rfl
      rotate_left
      · simp only [Act.put, List.setIfInBounds_toArray, List.set_cons_zero, List.set_cons_succ, i64_w, i32_w]
        rfl
      refine pure_ (i := 17) (N := some 37) (v := ?_) (a' := ?_) #[true, true, true, true, true, true, true, true, true, true, true, true, true, true, true, true, true, true, false, false, false, false, false, false, false, false, false, false, false, false, false, false, false, false, false, false, false, false, false, false, false, false, false, false, false, false, false, false, false, false, false, false, false] rfl rfl (by kernel_rfl) (fun _ _ _ h => h) (Or.inl ⟨by rfl, ?_⟩) ?_ ?_
      rotate_left
      · intro w'
        go_simp
        with_reducible rfl
      rotate_left
      · simp only [Act.put, List.setIfInBounds_toArray, List.set_cons_zero, List.set_cons_succ, i64_w, i32_w]
        rfl
      refine pure_ (i := 18) (N := some 38) (v := ?_) (a' := ?_) #[true, true, true, true, true, true, true, true, true, true, true, true, true, true, true, true, true, true, true, false, false, false, false, false, false, false, false, false, false, false, false, false, false, false, false, false, false, false, false, false, false, false, false, false, false, false, false, false, false, false, false, false, false] rfl rfl (by kernel_rfl) (fun _ _ _ h => h) (Or.inl ⟨by rfl, ?_⟩) ?_ ?_
      rotate_left
      · intro w'
        go_simp
        with_reducible rfl
      rotate_left
      · simp only [Act.put, List.setIfInBounds_toArray, List.set_cons_zero, List.set_cons_succ, i64_w, i32_w]
        rfl
      refine pure_ (i := 19) (N := some 39) (v := ?_) (a' := ?_) #[true, true, true, true, true, true, true, true, true, true, true, true, true, true, true, true, true, true, true, true, false, false, false, false, false, false, false, false, false, false, false, false, false, false, false, false, false, false, false, false, false, false, false, false, false, false, false, false, false, false, false, false, false] rfl rfl (by kernel_rfl) (fun _ _ _ h => h) (Or.inl ⟨by rfl, ?_⟩) ?_ ?_
      rotate_left
      · intro w'
        go_simp
        with_reducible rfl
      rotate_left
      · simp only [Act.put, List.setIfInBounds_toArray, List.set_cons_zero, List.set_cons_succ, i64_w, i32_w]
        rfl
      refine pure_ (i := 20) (N := some 40) (v := ?_) (a' := ?_) #[true, true, true, true, true, true, true, true, true, true, true, true, true, true, true, true, true, true, true, true, true, false, false, false, false, false, false, false, false, false, false, false, false, false, false, false, false, false, false, false, false, false, false, false, false, false, false, false, false, false, false, false, false] rfl rfl (by kernel_rfl) (fun _ _ _ h => h) (Or.inl ⟨by rfl, ?_⟩) ?_ ?_
      rotate_left
      · intro w'
        go_simp
        with_reducible rfl
      rotate_left
      · simp only [Act.put, List.setIfInBounds_toArray, List.set_cons_zero, List.set_cons_succ, i64_w, i32_w]
        rfl
      refine pure_ (i := 21) (N := some 41) (v := ?_) (a' := ?_) #[true, true, true, true, true, true, true, true, true, true, true, true, true, true, true, true, true, true, true, true, true, true, false, false, false, false, false, false, false, false, false, false, false, false, false, false, false, false, false, false, false, false, false, false, false, false, false, false, false, false, false, false, false] rfl rfl (by kernel_rfl) (fun _ _ _ h => h) (Or.inl ⟨by rfl, ?_⟩) ?_ ?_
      rotate_left
      · intro w'
        go_simp
        with_reducible rfl
      rotate_left
      · simp only [Act.put, List.setIfInBounds_toArray, List.set_cons_zero, List.set_cons_succ, i64_w, i32_w]
        rfl
      refine pure_ (i := 22) (N := some 42) (v := ?_) (a' := ?_) #[true, true, true, true, true, true, true, true, true, true, true, true, true, true, true, true, true, true, true, true, true, true, true, false, false, false, false, false, false, false, false, false, false, false, false, false, false, false, false, false, false, false, false, false, false, false, false, false, false, false, false, false, false] rfl rfl (by kernel_rfl) (fun _ _ _ h => h) (Or.inl ⟨by rfl, ?_⟩) ?_ ?_
      rotate_left
      · intro w'
        go_simp
        with_reducible rfl
      rotate_left
      · simp only [Act.put, List.setIfInBounds_toArray, List.set_cons_zero, List.set_cons_succ, i64_w, i32_w]
        rfl
      refine pure_ (i := 23) (N := some 43) (v := ?_) (a' := ?_) #[true, true, true, true, true, true, true, true, true, true, true, true, true, true, true, true, true, true, true, true, true, true, true, true, false, false, false, false, false, false, false, false, false, false, false, false, false, false, false, false, false, false, false, false, false, false, false, false, false, false, false, false, false] rfl rfl (by kernel_rfl) (fun _ _ _ h => h) (Or.inl ⟨by rfl, ?_⟩) ?_ ?_
      rotate_left
      · intro w'
        go_simp
        with_reducible rfl
      rotate_left
      · simp only [Act.put, List.setIfInBounds_toArray, List.set_cons_zero, List.set_cons_succ, i64_w, i32_w]
        rfl
      refine pure_ (i := 26) (N := some 46) (v := ?_) (a' := ?_) #[true, true, true, true, true, true, true, true, true, true, true, true, true, true, true, true, true, true, true, true, true, true, true, true, false, false, true, false, false, false, false, false, false, false, false, false, false, false, false, false, false, false, false, false, false, false, false, false, false, false, false, false, false] rfl rfl (by kernel_rfl) (fun _ _ _ h => h) (Or.inl ⟨by rfl, ?_⟩) ?_ ?_
      rotate_left
      · intro w'
        go_simp
        with_reducible rfl
      rotate_left
      · simp only [Act.put, List.setIfInBounds_toArray, List.set_cons_zero, List.set_cons_succ, i64_w, i32_w]
        rfl
      refine pure_ (i := 27) (N := some 47) (v := ?_) (a' := ?_) #[true, true, true, true, true, true, true, true, true, true, true, true, true, true, true, true, true, true, true, true, true, true, true, true, false, false, true, true, false, false, false, false, false, false, false, false, false, false, false, false, false, false, false, false, false, false, false, false, false, false, false, false, false] rfl rfl (by kernel_rfl) (fun _ _ _ h => h) (Or.inl ⟨by rfl, ?_⟩) ?_ ?_
      rotate_left
      · intro w'
        go_simp
        with_reducible rfl
      rotate_left
      · simp only [Act.put, List.setIfInBounds_toArray, List.set_cons_zero, List.set_cons_succ, i64_w, i32_w]
        rfl
      refine pure_ (i := 28) (N := some 48) (v := ?_) (a' := ?_) #[true, true, true, true, true, true, true, true, true, true, true, true, true, true, true, true, true, true, true, true, true, true, true, true, false, false, true, true, true, false, false, false, false, false, false, false, false, false, false, false, false, false, false, false, false, false, false, false, false, false, false, false, false] rfl rfl (by kernel_rfl) (fun _ _ _ h => h) (Or.inl ⟨by rfl, ?_⟩) ?_ ?_
      rotate_left
      · intro w'
        go_simp
        with_reducible rfl
      rotate_left
      · simp only [Act.put, List.setIfInBounds_toArray, List.set_cons_zero, List.set_cons_succ, i64_w, i32_w]
        rfl
      refine pure_ (i := 29) (N := some 49) (v := ?_) (a' := ?_) #[true, true, true, true, true, true, true, true, true, true, true, true, true, true, true, true, true, true, true, true, true, true, true, true, false, false, true, true, true, true, false, false, false, false, false, false, false, false, false, false, false, false, false, false, false, false, false, false, false, false, false, false, false] rfl rfl (by kernel_rfl) (fun _ _ _ h => h) (Or.inl ⟨by rfl, ?_⟩) ?_ ?_
      rotate_left
      · intro w'
        go_simp
        with_reducible rfl
      rotate_left
      · simp only [Act.put, List.setIfInBounds_toArray, List.set_cons_zero, List.set_cons_succ, i64_w, i32_w]
        rfl
      refine pure_ (i := 34) (N := some 54) (v := ?_) (a' := ?_) #[true, true, true, true, true, true, true, true, true, true, true, true, true, true, true, true, true, true, true, true, true, true, true, true, false, false, true, true, true, true, false, false, false, false, true, false, false, false, false, false, false, false, false, false, false, false, false, false, false, false, false, false, false] rfl rfl (by kernel_rfl) (fun _ _ _ h => h) (Or.inl ⟨by rfl, ?_⟩) ?_ ?_
      rotate_left
      · intro w'
        go_simp
        with_reducible rfl
      rotate_left
      · simp only [Act.put, List.setIfInBounds_toArray, List.set_cons_zero, List.set_cons_succ, i64_w, i32_w]
        rfl
      refine pure_ (i := 35) (N := some 55) (v := ?_) (a' := ?_) #[true, true, true, true, true, true, true, true, true, true, true, true, true, true, true, true, true, true, true, true, true, true, true, true, false, false, true, true, true, true, false, false, false, false, true, true, false, false, false, false, false, false, false, false, false, false, false, false, false, false, false, false, false] rfl rfl (by kernel_rfl) (fun _ _ _ h => h) (Or.inl ⟨by rfl, ?_⟩) ?_ ?_
      rotate_left
      · intro w'
        go_simp
        with_reducible rfl
      rotate_left
      · simp only [Act.put, List.setIfInBounds_toArray, List.set_cons_zero, List.set_cons_succ, i64_w, i32_w]
        rfl
      refine pure_ (i := 36) (N := some 56) (v := ?_) (a' := ?_) #[true, true, true, true, true, true, true, true, true, true, true, true, true, true, true, true, true, true, true, true, true, true, true, true, false, false, true, true, true, true, false, false, false, false, true, true, true, false, false, false, false, false, false, false, false, false, false, false, false, false, false, false, false] rfl rfl (by kernel_rfl) (fun _ _ _ h => h) (Or.inl ⟨by rfl, ?_⟩) ?_ ?_
      rotate_left
      · intro w'
        go_simp
        with_reducible rfl
      rotate_left
      · simp only [Act.put, List.setIfInBounds_toArray, List.set_cons_zero, List.set_cons_succ, i64_w, i32_w]
        rfl
      refine pure_ (i := 41) (N := some 61) (v := ?_) (a' := ?_) #[true, true, true, true, true, true, true, true, true, true, true, true, true, true, true, true, true, true, true, true, true, true, true, true, false, false, true, true, true, true, false, false, false, false, true, true, true, false, false, false, false, true, false, false, false, false, false, false, false, false, false, false, false] rfl rfl (by kernel_rfl) (fun _ _ _ h => h) (Or.inl ⟨by rfl, ?_⟩) ?_ ?_
      rotate_left
      · intro w'
        go_simp
        with_reducible rfl
      rotate_left
      · simp only [Act.put, List.setIfInBounds_toArray, List.set_cons_zero, List.set_cons_succ, i64_w, i32_w]
        rfl
      refine pure_ (i := 42) (N := some 62) (v := ?_) (a' := ?_) #[true, true, true, true, true, true, true, true, true, true, true, true, true, true, true, true, true, true, true, true, true, true, true, true, false, false, true, true, true, true, false, false, false, false, true, true, true, false, false, false, false, true, true, false, false, false, false, false, false, false, false, false, false] rfl rfl (by kernel_rfl) (fun _ _ _ h => h) (Or.inl ⟨by rfl, ?_⟩) ?_ ?_
      rotate_left
      · intro w'
        go_simp
        with_reducible rfl
      rotate_left
      · simp only [Act.put, List.setIfInBounds_toArray, List.set_cons_zero, List.set_cons_succ, i64_w, i32_w]
        rfl
      refine pure_ (i := 43) (N := some 63) (v := ?_) (a' := ?_) #[true, true, true, true, true, true, true, true, true, true, true, true, true, true, true, true, true, true, true, true, true, true, true, true, false, false, true, true, true, true, false, false, false, false, true, true, true, false, false, false, false, true, true, true, false, false, false, false, false, false, false, false, false] rfl rfl (by kernel_rfl) (fun _ _ _ h => h) (Or.inl ⟨by rfl, ?_⟩) ?_ ?_
      rotate_left
      · intro w'
        go_simp
        with_reducible rfl
      rotate_left
      · simp only [Act.put, List.setIfInBounds_toArray, List.set_cons_zero, List.set_cons_succ, i64_w, i32_w]
        rfl
      refine pure_ (i := 46) (N := some 66) (v := ?_) (a' := ?_) #[true, true, true, true, true, true, true, true, true, true, true, true, true, true, true, true, true, true, true, true, true, true, true, true, false, false, true, true, true, true, false, false, false, false, true, true, true, false, false, false, false, true, true, true, false, false, true, false, false, false, false, false, false] rfl rfl (by kernel_rfl) (fun _ _ _ h => h) (Or.inl ⟨by rfl, ?_⟩) ?_ ?_
      rotate_left
      · intro w'
        go_simp
        with_reducible rfl
      rotate_left
      · simp only [Act.put, List.setIfInBounds_toArray, List.set_cons_zero, List.set_cons_succ, i64_w, i32_w]
        rfl
      refine take_ (i := 47) (N := some 67) (v := ?_) (a' := ?_) #[true, true, true, true, true, true, true, true, true, true, true, true, true, true, true, true, true, true, true, true, true, true, true, true, false, false, true, true, true, true, false, false, false, false, true, true, true, false, false, false, false, true, true, true, false, false, true, true, false, false, false, false, false] rfl rfl (by kernel_rfl) (fun _ _ _ h => h) (Or.inl ⟨by rfl, ?_⟩) hHeld ?_ ?_
      rotate_left
      · rintro w' hb
        have d1 := C.cell_on c1.out hb
        go_simp
        with_reducible rfl
      rotate_left
      · simp only [Act.put, List.setIfInBounds_toArray, List.set_cons_zero, List.set_cons_succ, i64_w, i32_w]
        rfl
      refine pure_ (i := 48) (N := some 68) (v := ?_) (a' := ?_) #[true, true, true, true, true, true, true, true, true, true, true, true, true, true, true, true, true, true, true, true, true, true, true, true, false, false, true, true, true, true, false, false, false, false, true, true, true, false, false, false, false, true, true, true, false, false, true, true, true, false, false, false, false] rfl rfl (by kernel_rfl) (fun _ _ _ h => h) (Or.inl ⟨by rfl, ?_⟩) ?_ ?_
      rotate_left
      · intro w'
        go_simp
        with_reducible rfl
      rotate_left
      · simp only [Act.put, List.setIfInBounds_toArray, List.set_cons_zero, List.set_cons_succ, i64_w, i32_w]
        rfl
      refine pure_ (i := 49) (N := some 69) (v := ?_) (a' := ?_) #[true, true, true, true, true, true, true, true, true, true, true, true, true, true, true, true, true, true, true, true, true, true, true, true, false, false, true, true, true, true, false, false, false, false, true, true, true, false, false, false, false, true, true, true, false, false, true, true, true, true, false, false, false] rfl rfl (by kernel_rfl) (fun _ _ _ h => h) (Or.inl ⟨by rfl, ?_⟩) ?_ ?_
      rotate_left
      · intro w'
        go_simp
        with_reducible rfl
      rotate_left
      · simp only [Act.put, List.setIfInBounds_toArray, List.set_cons_zero, List.set_cons_succ, i64_w, i32_w]
        rfl
      refine pure_ (i := 50) (N := some 70) (v := ?_) (a' := ?_) #[true, true, true, true, true, true, true, true, true, true, true, true, true, true, true, true, true, true, true, true, true, true, true, true, false, false, true, true, true, true, false, false, false, false, true, true, true, false, false, false, false, true, true, true, false, false, true, true, true, true, true, false, false] rfl rfl (by kernel_rfl) (fun _ _ _ h => h) (Or.inl ⟨by rfl, ?_⟩) ?_ ?_
      rotate_left
      · intro w'
        go_simp
        with_reducible rfl
      rotate_left
      · simp only [Act.put, List.setIfInBounds_toArray, List.set_cons_zero, List.set_cons_succ, i64_w, i32_w]
        rfl
      refine join3_ (σ := Value × Value × Value) (S3 := fun w' => (((Below w2.heap.size w2 w') ∧ w'.heap[w2.heap.size]? = some (.cells (madeCells #[.int .u8 0] 29) 5 (0, 0))) ∧ w'.heap[wA0.heap.size]? = some (.cells (madeCells #[.int .u8 0] 29) 5 (0, 0))) ∧ w'.heap[wA1.heap.size]? = some (.cells (madeCells #[.int .u8 0] 29) 5 (0, 0))) 2 #[true, true, true, true, true, true, true, true, true, true, true, true, true, true, true, true, true, true, true, true, true, true, true, true, true, true, true, true, true, true, true, true, true, true, true, true, true, true, true, true, true, true, true, true, true, true, true, true, true, true, true, false, false] (fun s => [(44, s.1), (45, .string z29), (50, .agg #[.string z29, .int .i32 (wrap32 (wrap64 (113 + m.tmod 1000)))]), (51, .iface 55 (.agg #[.string z29, .int .i32 (wrap32 (wrap64 (113 + m.tmod 1000)))])), (52, s.2.1), (53, .string z29), (57, .agg #[.string z29, .int .i64 0, .int .i64 (wrap64 (11 + m.tmod 1000))]), (58, .iface 57 (.agg #[.string z29, .int .i64 0, .int .i64 (wrap64 (11 + m.tmod 1000))])), (59, s.2.2), (60, .string z29), (64, .agg #[.string z29, .int .i64 (wrap64 (268435456 + m.tmod 1000))]), (65, .iface 59 (.agg #[.string z29, .int .i64 (wrap64 (268435456 + m.tmod 1000))]))]) wA2 ?_ ?_
      · rintro ⟨s1, s2, s3⟩
        refine norm_ (a' := ?_) ?_ ?_
        rotate_left
        · show putAll _ _ = _
          simp only [putAll, Act.put, List.setIfInBounds_toArray, List.set_cons_zero, List.set_cons_succ]
          rfl
        refine one_ (i := 51) (N := some 71) #[true, true, true, true, true, true, true, true, true, true, true, true, true, true, true, true, true, true, true, true, true, true, true, true, true, true, true, true, true, true, true, true, true, true, true, true, true, true, true, true, true, true, true, true, true, true, true, true, true, true, true, true, false] rfl rfl (by kernel_rfl) (by decide) (fun K hK => ?_)
        refine value_ (w1 := ?_) (v := ?_) (by rfl) rfl ?_ ?_
        rotate_left 2
        · go_simp
          constructor
          · rfl
          · rfl
        refine hK.out _ _ (⟨⟨⟨below_alloc B2.out _, heap_keep k02.out _⟩, heap_keep k12.out _⟩, heap_keep hZ2.out _⟩) (fun hHeld => ?_)
        clear hK K
        refine norm_ (a' := ?_) ?_ ?_
        rotate_left
        · show Act.put _ (some 71) _ = _
          simp only [Act.put, List.setIfInBounds_toArray, List.set_cons_zero, List.set_cons_succ, i64_w, i32_w]
          rfl
        refine pure_ (i := 52) (N := some 6) (v := ?_) (a' := ?_) #[true, true, true, true, true, true, true, true, true, true, true, true, true, true, true, true, true, true, true, true, true, true, true, true, true, true, true, true, true, true, true, true, true, true, true, true, true, true, true, true, true, true, true, true, true, true, true, true, true, true, true, true, true] rfl rfl (by kernel_rfl) (fun _ _ _ h => h) (Or.inl ⟨by rfl, ?_⟩) ?_ ?_
        rotate_left
        · intro w'
          go_simp
          with_reducible rfl
        rotate_left
        · simp only [Act.put, List.setIfInBounds_toArray, List.set_cons_zero, List.set_cons_succ, i64_w, i32_w]
          rfl
        refine done_ (by kernel_rfl) ?_
        have hb := hHeld.1.1.1
        clear hHeld
        go_wp2_with fail
        go_meet
        have hu0 : 0 ≤ m.tmod 1000 := by rw [Int.tmod_eq_emod_of_nonneg h0]; omega
        have hu1 : m.tmod 1000 < 1000 := by rw [Int.tmod_eq_emod_of_nonneg h0]; omega
        generalize m.tmod 1000 = u at hb hu0 hu1 ⊢
        refine ⟨_, _, _, _, _, _, _, _, rfl, ?_, ?_, ?_, ?_, ?_, ?_, ?_, Array.getElem?_push_size, hb⟩
        all_goals ((try unfold wrap32); (try unfold wrap64); omega)
      intro hJ
      clear hHeld
      refine three_ (i := 24) (j := 32) (k := 39) (Ni := some 44) (Nj := some 52) (Nk := some 59) #[true, true, true, true, true, true, true, true, true, true, true, true, true, true, true, true, true, true, true, true, true, true, true, true, true, false, true, true, true, true, false, false, false, false, true, true, true, false, false, false, false, true, true, true, false, false, true, true, true, true, true, false, false] #[true, true, true, true, true, true, true, true, true, true, true, true, true, true, true, true, true, true, true, true, true, true, true, true, false, false, true, true, true, true, false, false, true, false, true, true, true, false, false, false, false, true, true, true, false, false, true, true, true, true, true, false, false] #[true, true, true, true, true, true, true, true, true, true, true, true, true, true, true, true, true, true, true, true, true, true, true, true, false, false, true, true, true, true, false, false, false, false, true, true, true, false, false, true, false, true, true, true, false, false, true, true, true, true, true, false, false] rfl rfl rfl rfl rfl rfl (by kernel_rfl) (by decide) (by decide) (by decide) (fun K hK => ?_) (fun K hK => ?_) (fun K hK => ?_)
      · refine value_ (w1 := ?_) (v := ?_) (by rfl) rfl ?_ ?_
        rotate_left 2
        · go_simp
          constructor
          · rfl
          · rfl
        refine hK.out _ _ (by have h : Below w2.heap.size w2 wA0 := B0.out; rw [← hA0.out] at h; exact h) (fun hHeld => ?_)
        clear hK K hHeld
        refine norm_ (a' := ?_) ?_ ?_
        rotate_left
        · show Act.put _ (some 44) _ = _
          simp only [Act.put, List.setIfInBounds_toArray, List.set_cons_zero, List.set_cons_succ, i64_w, i32_w]
          rfl
        rw [hA0.out]
        refine more_ (T := fun w' => w'.heap[w2.heap.size]? = some (.cells (madeCells #[.int .u8 0] 29) 5 (0, 0))) _ _ _ _ B0.out hZ0.out ?_
        have hHeld : (Below w2.heap.size w2 wA0) ∧ wA0.heap[w2.heap.size]? = some (.cells (madeCells #[.int .u8 0] 29) 5 (0, 0)) := ⟨B0.out, hZ0.out⟩
        refine take_ (i := 25) (N := some 45) (v := ?_) (a' := ?_) #[true, true, true, true, true, true, true, true, true, true, true, true, true, true, true, true, true, true, true, true, true, true, true, true, true, true, true, true, true, true, false, false, false, false, true, true, true, false, false, false, false, true, true, true, false, false, true, true, true, true, true, false, false] rfl rfl (by kernel_rfl) (fun _ _ _ h => h) (Or.inl ⟨by rfl, ?_⟩) hHeld ?_ ?_
        rotate_left
        · rintro w' ⟨hb, z0⟩
          have hcv := conv29 w' w2.heap.size z0
          go_simp
          with_reducible rfl
        rotate_left
        · simp only [Act.put, List.setIfInBounds_toArray, List.set_cons_zero, List.set_cons_succ, i64_w, i32_w]
          rfl
        refine pure_ (i := 30) (N := some 50) (v := ?_) (a' := ?_) #[true, true, true, true, true, true, true, true, true, true, true, true, true, true, true, true, true, true, true, true, true, true, true, true, true, true, true, true, true, true, true, false, false, false, true, true, true, false, false, false, false, true, true, true, false, false, true, true, true, true, true, false, false] rfl rfl (by kernel_rfl) (fun _ _ _ h => h) (Or.inl ⟨by rfl, ?_⟩) ?_ ?_
        rotate_left
        · intro w'
          go_simp
          with_reducible rfl
        rotate_left
        · simp only [Act.put, List.setIfInBounds_toArray, List.set_cons_zero, List.set_cons_succ, i64_w, i32_w]
          rfl
        refine pure_ (i := 31) (N := some 51) (v := ?_) (a' := ?_) #[true, true, true, true, true, true, true, true, true, true, true, true, true, true, true, true, true, true, true, true, true, true, true, true, true, true, true, true, true, true, true, true, false, false, true, true, true, false, false, false, false, true, true, true, false, false, true, true, true, true, true, false, false] rfl rfl (by kernel_rfl) (fun _ _ _ h => h) (Or.inl ⟨by rfl, ?_⟩) ?_ ?_
        rotate_left
        · intro w'
          go_simp
          with_reducible rfl
        rotate_left
        · simp only [Act.put, List.setIfInBounds_toArray, List.set_cons_zero, List.set_cons_succ, i64_w, i32_w]
          rfl
        clear hHeld
        refine two_ (i := 32) (j := 39) (Ni := some 52) (Nj := some 59) #[true, true, true, true, true, true, true, true, true, true, true, true, true, true, true, true, true, true, true, true, true, true, true, true, true, true, true, true, true, true, true, true, true, false, true, true, true, false, false, false, false, true, true, true, false, false, true, true, true, true, true, false, false] #[true, true, true, true, true, true, true, true, true, true, true, true, true, true, true, true, true, true, true, true, true, true, true, true, true, true, true, true, true, true, true, true, false, false, true, true, true, false, false, true, false, true, true, true, false, false, true, true, true, true, true, false, false] rfl rfl rfl rfl (by kernel_rfl) (by decide) (by decide) (fun K hK => ?_) (fun K hK => ?_)
        · refine value_ (w1 := ?_) (v := ?_) (by rfl) rfl ?_ ?_
          rotate_left 2
          · go_simp
            constructor
            · rfl
            · rfl
          refine hK.out _ _ (by have h : (Below w2.heap.size w2 wA1) ∧ wA1.heap[w2.heap.size]? = some (.cells (madeCells #[.int .u8 0] 29) 5 (0, 0)) := ⟨B1.out, k01.out⟩; rw [← hA1.out] at h; exact h) (fun hHeld => ?_)
          clear hK K hHeld
          refine norm_ (a' := ?_) ?_ ?_
          rotate_left
          · show Act.put _ (some 52) _ = _
            simp only [Act.put, List.setIfInBounds_toArray, List.set_cons_zero, List.set_cons_succ, i64_w, i32_w]
            rfl
          rw [hA1.out]
          refine more_ (T := fun w' => w'.heap[wA0.heap.size]? = some (.cells (madeCells #[.int .u8 0] 29) 5 (0, 0))) _ _ _ _ ⟨B1.out, k01.out⟩ hZ1.out ?_
          have hHeld : ((Below w2.heap.size w2 wA1) ∧ wA1.heap[w2.heap.size]? = some (.cells (madeCells #[.int .u8 0] 29) 5 (0, 0))) ∧ wA1.heap[wA0.heap.size]? = some (.cells (madeCells #[.int .u8 0] 29) 5 (0, 0)) := ⟨⟨B1.out, k01.out⟩, hZ1.out⟩
          refine take_ (i := 33) (N := some 53) (v := ?_) (a' := ?_) #[true, true, true, true, true, true, true, true, true, true, true, true, true, true, true, true, true, true, true, true, true, true, true, true, true, true, true, true, true, true, true, true, true, true, true, true, true, false, false, false, false, true, true, true, false, false, true, true, true, true, true, false, false] rfl rfl (by kernel_rfl) (fun _ _ _ h => h) (Or.inl ⟨by rfl, ?_⟩) hHeld ?_ ?_
          rotate_left
          · rintro w' ⟨⟨hb, z0⟩, z1⟩
            have hcv := conv29 w' wA0.heap.size z1
            go_simp
            with_reducible rfl
          rotate_left
          · simp only [Act.put, List.setIfInBounds_toArray, List.set_cons_zero, List.set_cons_succ, i64_w, i32_w]
            rfl
          refine pure_ (i := 37) (N := some 57) (v := ?_) (a' := ?_) #[true, true, true, true, true, true, true, true, true, true, true, true, true, true, true, true, true, true, true, true, true, true, true, true, true, true, true, true, true, true, true, true, true, true, true, true, true, true, false, false, false, true, true, true, false, false, true, true, true, true, true, false, false] rfl rfl (by kernel_rfl) (fun _ _ _ h => h) (Or.inl ⟨by rfl, ?_⟩) ?_ ?_
          rotate_left
          · intro w'
            go_simp
            with_reducible rfl
          rotate_left
          · simp only [Act.put, List.setIfInBounds_toArray, List.set_cons_zero, List.set_cons_succ, i64_w, i32_w]
            rfl
          refine pure_ (i := 38) (N := some 58) (v := ?_) (a' := ?_) #[true, true, true, true, true, true, true, true, true, true, true, true, true, true, true, true, true, true, true, true, true, true, true, true, true, true, true, true, true, true, true, true, true, true, true, true, true, true, true, false, false, true, true, true, false, false, true, true, true, true, true, false, false] rfl rfl (by kernel_rfl) (fun _ _ _ h => h) (Or.inl ⟨by rfl, ?_⟩) ?_ ?_
          rotate_left
          · intro w'
            go_simp
            with_reducible rfl
          rotate_left
          · simp only [Act.put, List.setIfInBounds_toArray, List.set_cons_zero, List.set_cons_succ, i64_w, i32_w]
            rfl
          clear hHeld
          refine one_ (i := 39) (N := some 59) #[true, true, true, true, true, true, true, true, true, true, true, true, true, true, true, true, true, true, true, true, true, true, true, true, true, true, true, true, true, true, true, true, true, true, true, true, true, true, true, true, false, true, true, true, false, false, true, true, true, true, true, false, false] rfl rfl (by kernel_rfl) (by decide) (fun K hK => ?_)
          refine value_ (w1 := ?_) (v := ?_) (by rfl) rfl ?_ ?_
          rotate_left 2
          · go_simp
            constructor
            · rfl
            · rfl
          refine hK.out _ _ (by have h : ((Below w2.heap.size w2 wA2) ∧ wA2.heap[w2.heap.size]? = some (.cells (madeCells #[.int .u8 0] 29) 5 (0, 0))) ∧ wA2.heap[wA0.heap.size]? = some (.cells (madeCells #[.int .u8 0] 29) 5 (0, 0)) := ⟨⟨B2.out, k02.out⟩, k12.out⟩; rw [← hA2.out] at h; exact h) (fun hHeld => ?_)
          clear hK K hHeld
          refine norm_ (a' := ?_) ?_ ?_
          rotate_left
          · show Act.put _ (some 59) _ = _
            simp only [Act.put, List.setIfInBounds_toArray, List.set_cons_zero, List.set_cons_succ, i64_w, i32_w]
            rfl
          rw [hA2.out]
          refine more_ (T := fun w' => w'.heap[wA1.heap.size]? = some (.cells (madeCells #[.int .u8 0] 29) 5 (0, 0))) _ _ _ _ ⟨⟨B2.out, k02.out⟩, k12.out⟩ hZ2.out ?_
          have hHeld : (((Below w2.heap.size w2 wA2) ∧ wA2.heap[w2.heap.size]? = some (.cells (madeCells #[.int .u8 0] 29) 5 (0, 0))) ∧ wA2.heap[wA0.heap.size]? = some (.cells (madeCells #[.int .u8 0] 29) 5 (0, 0))) ∧ wA2.heap[wA1.heap.size]? = some (.cells (madeCells #[.int .u8 0] 29) 5 (0, 0)) := ⟨⟨⟨B2.out, k02.out⟩, k12.out⟩, hZ2.out⟩
          refine take_ (i := 40) (N := some 60) (v := ?_) (a' := ?_) #[true, true, true, true, true, true, true, true, true, true, true, true, true, true, true, true, true, true, true, true, true, true, true, true, true, true, true, true, true, true, true, true, true, true, true, true, true, true, true, true, true, true, true, true, false, false, true, true, true, true, true, false, false] rfl rfl (by kernel_rfl) (fun _ _ _ h => h) (Or.inl ⟨by rfl, ?_⟩) hHeld ?_ ?_
          rotate_left
          · rintro w' ⟨⟨⟨hb, z0⟩, z1⟩, z2⟩
            have hcv := conv29 w' wA1.heap.size z2
            go_simp
            with_reducible rfl
          rotate_left
          · simp only [Act.put, List.setIfInBounds_toArray, List.set_cons_zero, List.set_cons_succ, i64_w, i32_w]
            rfl
          refine pure_ (i := 44) (N := some 64) (v := ?_) (a' := ?_) #[true, true, true, true, true, true, true, true, true, true, true, true, true, true, true, true, true, true, true, true, true, true, true, true, true, true, true, true, true, true, true, true, true, true, true, true, true, true, true, true, true, true, true, true, true, false, true, true, true, true, true, false, false] rfl rfl (by kernel_rfl) (fun _ _ _ h => h) (Or.inl ⟨by rfl, ?_⟩) ?_ ?_
          rotate_left
          · intro w'
            go_simp
            with_reducible rfl
          rotate_left
          · simp only [Act.put, List.setIfInBounds_toArray, List.set_cons_zero, List.set_cons_succ, i64_w, i32_w]
            rfl
          refine pure_ (i := 45) (N := some 65) (v := ?_) (a' := ?_) #[true, true, true, true, true, true, true, true, true, true, true, true, true, true, true, true, true, true, true, true, true, true, true, true, true, true, true, true, true, true, true, true, true, true, true, true, true, true, true, true, true, true, true, true, true, true, true, true, true, true, true, false, false] rfl rfl (by kernel_rfl) (fun _ _ _ h => h) (Or.inl ⟨by rfl, ?_⟩) ?_ ?_
          rotate_left
          · intro w'
            go_simp
            with_reducible rfl
          rotate_left
          · simp only [Act.put, List.setIfInBounds_toArray, List.set_cons_zero, List.set_cons_succ, i64_w, i32_w]
            rfl
          clear hHeld
          refine norm_ ?_ (hJ ((.slice (some ⟨w2.heap.size, 0, none⟩) 29 29), (.slice (some ⟨wA0.heap.size, 0, none⟩) 29 29), (.slice (some ⟨wA1.heap.size, 0, none⟩) 29 29)))
          simp only [putAll, Act.put, List.setIfInBounds_toArray, List.set_cons_zero, List.set_cons_succ]
        · refine value_ (w1 := ?_) (v := ?_) (by rfl) rfl ?_ ?_
          rotate_left 2
          · go_simp
            constructor
            · rfl
            · rfl
          refine hK.out _ _ (by have h : (Below w2.heap.size w2 wA1) ∧ wA1.heap[w2.heap.size]? = some (.cells (madeCells #[.int .u8 0] 29) 5 (0, 0)) := ⟨B1.out, k01.out⟩; rw [← hA1.out] at h; exact h) (fun hHeld => ?_)
          clear hK K hHeld
          refine norm_ (a' := ?_) ?_ ?_
          rotate_left
          · show Act.put _ (some 59) _ = _
            simp only [Act.put, List.setIfInBounds_toArray, List.set_cons_zero, List.set_cons_succ, i64_w, i32_w]
            rfl
          rw [hA1.out]
          refine more_ (T := fun w' => w'.heap[wA0.heap.size]? = some (.cells (madeCells #[.int .u8 0] 29) 5 (0, 0))) _ _ _ _ ⟨B1.out, k01.out⟩ hZ1.out ?_
          have hHeld : ((Below w2.heap.size w2 wA1) ∧ wA1.heap[w2.heap.size]? = some (.cells (madeCells #[.int .u8 0] 29) 5 (0, 0))) ∧ wA1.heap[wA0.heap.size]? = some (.cells (madeCells #[.int .u8 0] 29) 5 (0, 0)) := ⟨⟨B1.out, k01.out⟩, hZ1.out⟩
          refine take_ (i := 40) (N := some 60) (v := ?_) (a' := ?_) #[true, true, true, true, true, true, true, true, true, true, true, true, true, true, true, true, true, true, true, true, true, true, true, true, true, true, true, true, true, true, true, true, false, false, true, true, true, false, false, true, true, true, true, true, false, false, true, true, true, true, true, false, false] rfl rfl (by kernel_rfl) (fun _ _ _ h => h) (Or.inl ⟨by rfl, ?_⟩) hHeld ?_ ?_
          rotate_left
          · rintro w' ⟨⟨hb, z0⟩, z1⟩
            have hcv := conv29 w' wA0.heap.size z1
            go_simp
            with_reducible rfl
          rotate_left
          · simp only [Act.put, List.setIfInBounds_toArray, List.set_cons_zero, List.set_cons_succ, i64_w, i32_w]
            rfl
          refine pure_ (i := 44) (N := some 64) (v := ?_) (a' := ?_) #[true, true, true, true, true, true, true, true, true, true, true, true, true, true, true, true, true, true, true, true, true, true, true, true, true, true, true, true, true, true, true, true, false, false, true, true, true, false, false, true, true, true, true, true, true, false, true, true, true, true, true, false, false] rfl rfl (by kernel_rfl) (fun _ _ _ h => h) (Or.inl ⟨by rfl, ?_⟩) ?_ ?_
          rotate_left
          · intro w'
            go_simp
            with_reducible rfl
          rotate_left
          · simp only [Act.put, List.setIfInBounds_toArray, List.set_cons_zero, List.set_cons_succ, i64_w, i32_w]
            rfl
          refine pure_ (i := 45) (N := some 65) (v := ?_) (a' := ?_) #[true, true, true, true, true, true, true, true, true, true, true, true, true, true, true, true, true, true, true, true, true, true, true, true, true, true, true, true, true, true, true, true, false, false, true, true, true, false, false, true, true, true, true, true, true, true, true, true, true, true, true, false, false] rfl rfl (by kernel_rfl) (fun _ _ _ h => h) (Or.inl ⟨by rfl, ?_⟩) ?_ ?_
          rotate_left
          · intro w'
            go_simp
            with_reducible rfl
          rotate_left
          · simp only [Act.put, List.setIfInBounds_toArray, List.set_cons_zero, List.set_cons_succ, i64_w, i32_w]
            rfl
          clear hHeld
          refine one_ (i := 32) (N := some 52) #[true, true, true, true, true, true, true, true, true, true, true, true, true, true, true, true, true, true, true, true, true, true, true, true, true, true, true, true, true, true, true, true, true, false, true, true, true, false, false, true, true, true, true, true, true, true, true, true, true, true, true, false, false] rfl rfl (by kernel_rfl) (by decide) (fun K hK => ?_)
          refine value_ (w1 := ?_) (v := ?_) (by rfl) rfl ?_ ?_
          rotate_left 2
          · go_simp
            constructor
            · rfl
            · rfl
          refine hK.out _ _ (by have h : ((Below w2.heap.size w2 wA2) ∧ wA2.heap[w2.heap.size]? = some (.cells (madeCells #[.int .u8 0] 29) 5 (0, 0))) ∧ wA2.heap[wA0.heap.size]? = some (.cells (madeCells #[.int .u8 0] 29) 5 (0, 0)) := ⟨⟨B2.out, k02.out⟩, k12.out⟩; rw [← hA2.out] at h; exact h) (fun hHeld => ?_)
          clear hK K hHeld
          refine norm_ (a' := ?_) ?_ ?_
          rotate_left
          · show Act.put _ (some 52) _ = _
            simp only [Act.put, List.setIfInBounds_toArray, List.set_cons_zero, List.set_cons_succ, i64_w, i32_w]
            rfl
          rw [hA2.out]
          refine more_ (T := fun w' => w'.heap[wA1.heap.size]? = some (.cells (madeCells #[.int .u8 0] 29) 5 (0, 0))) _ _ _ _ ⟨⟨B2.out, k02.out⟩, k12.out⟩ hZ2.out ?_
          have hHeld : (((Below w2.heap.size w2 wA2) ∧ wA2.heap[w2.heap.size]? = some (.cells (madeCells #[.int .u8 0] 29) 5 (0, 0))) ∧ wA2.heap[wA0.heap.size]? = some (.cells (madeCells #[.int .u8 0] 29) 5 (0, 0))) ∧ wA2.heap[wA1.heap.size]? = some (.cells (madeCells #[.int .u8 0] 29) 5 (0, 0)) := ⟨⟨⟨B2.out, k02.out⟩, k12.out⟩, hZ2.out⟩
          refine take_ (i := 33) (N := some 53) (v := ?_) (a' := ?_) #[true, true, true, true, true, true, true, true, true, true, true, true, true, true, true, true, true, true, true, true, true, true, true, true, true, true, true, true, true, true, true, true, true, true, true, true, true, false, false, true, true, true, true, true, true, true, true, true, true, true, true, false, false] rfl rfl (by kernel_rfl) (fun _ _ _ h => h) (Or.inl ⟨by rfl, ?_⟩) hHeld ?_ ?_
          rotate_left
          · rintro w' ⟨⟨⟨hb, z0⟩, z1⟩, z2⟩
            have hcv := conv29 w' wA1.heap.size z2
            go_simp
            with_reducible rfl
          rotate_left
          · simp only [Act.put, List.setIfInBounds_toArray, List.set_cons_zero, List.set_cons_succ, i64_w, i32_w]
            rfl
          refine pure_ (i := 37) (N := some 57) (v := ?_) (a' := ?_) #[true, true, true, true, true, true, true, true, true, true, true, true, true, true, true, true, true, true, true, true, true, true, true, true, true, true, true, true, true, true, true, true, true, true, true, true, true, true, false, true, true, true, true, true, true, true, true, true, true, true, true, false, false] rfl rfl (by kernel_rfl) (fun _ _ _ h => h) (Or.inl ⟨by rfl, ?_⟩) ?_ ?_
          rotate_left
          · intro w'
            go_simp
            with_reducible rfl
          rotate_left
          · simp only [Act.put, List.setIfInBounds_toArray, List.set_cons_zero, List.set_cons_succ, i64_w, i32_w]
            rfl
          refine pure_ (i := 38) (N := some 58) (v := ?_) (a' := ?_) #[true, true, true, true, true, true, true, true, true, true, true, true, true, true, true, true, true, true, true, true, true, true, true, true, true, true, true, true, true, true, true, true, true, true, true, true, true, true, true, true, true, true, true, true, true, true, true, true, true, true, true, false, false] rfl rfl (by kernel_rfl) (fun _ _ _ h => h) (Or.inl ⟨by rfl, ?_⟩) ?_ ?_
          rotate_left
          · intro w'
            go_simp
            with_reducible rfl
          rotate_left
          · simp only [Act.put, List.setIfInBounds_toArray, List.set_cons_zero, List.set_cons_succ, i64_w, i32_w]
            rfl
          clear hHeld
          refine norm_ ?_ (hJ ((.slice (some ⟨w2.heap.size, 0, none⟩) 29 29), (.slice (some ⟨wA1.heap.size, 0, none⟩) 29 29), (.slice (some ⟨wA0.heap.size, 0, none⟩) 29 29)))
          simp only [putAll, Act.put, List.setIfInBounds_toArray, List.set_cons_zero, List.set_cons_succ]
      · refine value_ (w1 := ?_) (v := ?_) (by rfl) rfl ?_ ?_
        rotate_left 2
        · go_simp
          constructor
          · rfl
          · rfl
        refine hK.out _ _ (by have h : Below w2.heap.size w2 wA0 := B0.out; rw [← hA0.out] at h; exact h) (fun hHeld => ?_)
        clear hK K hHeld
        refine norm_ (a' := ?_) ?_ ?_
        rotate_left
        · show Act.put _ (some 52) _ = _
          simp only [Act.put, List.setIfInBounds_toArray, List.set_cons_zero, List.set_cons_succ, i64_w, i32_w]
          rfl
        rw [hA0.out]
        refine more_ (T := fun w' => w'.heap[w2.heap.size]? = some (.cells (madeCells #[.int .u8 0] 29) 5 (0, 0))) _ _ _ _ B0.out hZ0.out ?_
        have hHeld : (Below w2.heap.size w2 wA0) ∧ wA0.heap[w2.heap.size]? = some (.cells (madeCells #[.int .u8 0] 29) 5 (0, 0)) := ⟨B0.out, hZ0.out⟩
        refine take_ (i := 33) (N := some 53) (v := ?_) (a' := ?_) #[true, true, true, true, true, true, true, true, true, true, true, true, true, true, true, true, true, true, true, true, true, true, true, true, false, false, true, true, true, true, false, false, true, true, true, true, true, false, false, false, false, true, true, true, false, false, true, true, true, true, true, false, false] rfl rfl (by kernel_rfl) (fun _ _ _ h => h) (Or.inl ⟨by rfl, ?_⟩) hHeld ?_ ?_
        rotate_left
        · rintro w' ⟨hb, z0⟩
          have hcv := conv29 w' w2.heap.size z0
          go_simp
          with_reducible rfl
        rotate_left
        · simp only [Act.put, List.setIfInBounds_toArray, List.set_cons_zero, List.set_cons_succ, i64_w, i32_w]
          rfl
        refine pure_ (i := 37) (N := some 57) (v := ?_) (a' := ?_) #[true, true, true, true, true, true, true, true, true, true, true, true, true, true, true, true, true, true, true, true, true, true, true, true, false, false, true, true, true, true, false, false, true, true, true, true, true, true, false, false, false, true, true, true, false, false, true, true, true, true, true, false, false] rfl rfl (by kernel_rfl) (fun _ _ _ h => h) (Or.inl ⟨by rfl, ?_⟩) ?_ ?_
        rotate_left
        · intro w'
          go_simp
          with_reducible rfl
        rotate_left
        · simp only [Act.put, List.setIfInBounds_toArray, List.set_cons_zero, List.set_cons_succ, i64_w, i32_w]
          rfl
        refine pure_ (i := 38) (N := some 58) (v := ?_) (a' := ?_) #[true, true, true, true, true, true, true, true, true, true, true, true, true, true, true, true, true, true, true, true, true, true, true, true, false, false, true, true, true, true, false, false, true, true, true, true, true, true, true, false, false, true, true, true, false, false, true, true, true, true, true, false, false] rfl rfl (by kernel_rfl) (fun _ _ _ h => h) (Or.inl ⟨by rfl, ?_⟩) ?_ ?_
        rotate_left
        · intro w'
          go_simp
          with_reducible rfl
        rotate_left
        · simp only [Act.put, List.setIfInBounds_toArray, List.set_cons_zero, List.set_cons_succ, i64_w, i32_w]
          rfl
        clear hHeld
        refine two_ (i := 24) (j := 39) (Ni := some 44) (Nj := some 59) #[true, true, true, true, true, true, true, true, true, true, true, true, true, true, true, true, true, true, true, true, true, true, true, true, true, false, true, true, true, true, false, false, true, true, true, true, true, true, true, false, false, true, true, true, false, false, true, true, true, true, true, false, false] #[true, true, true, true, true, true, true, true, true, true, true, true, true, true, true, true, true, true, true, true, true, true, true, true, false, false, true, true, true, true, false, false, true, true, true, true, true, true, true, true, false, true, true, true, false, false, true, true, true, true, true, false, false] rfl rfl rfl rfl (by kernel_rfl) (by decide) (by decide) (fun K hK => ?_) (fun K hK => ?_)
        · refine value_ (w1 := ?_) (v := ?_) (by rfl) rfl ?_ ?_
          rotate_left 2
          · go_simp
            constructor
            · rfl
            · rfl
          refine hK.out _ _ (by have h : (Below w2.heap.size w2 wA1) ∧ wA1.heap[w2.heap.size]? = some (.cells (madeCells #[.int .u8 0] 29) 5 (0, 0)) := ⟨B1.out, k01.out⟩; rw [← hA1.out] at h; exact h) (fun hHeld => ?_)
          clear hK K hHeld
          refine norm_ (a' := ?_) ?_ ?_
          rotate_left
          · show Act.put _ (some 44) _ = _
            simp only [Act.put, List.setIfInBounds_toArray, List.set_cons_zero, List.set_cons_succ, i64_w, i32_w]
            rfl
          rw [hA1.out]
          refine more_ (T := fun w' => w'.heap[wA0.heap.size]? = some (.cells (madeCells #[.int .u8 0] 29) 5 (0, 0))) _ _ _ _ ⟨B1.out, k01.out⟩ hZ1.out ?_
          have hHeld : ((Below w2.heap.size w2 wA1) ∧ wA1.heap[w2.heap.size]? = some (.cells (madeCells #[.int .u8 0] 29) 5 (0, 0))) ∧ wA1.heap[wA0.heap.size]? = some (.cells (madeCells #[.int .u8 0] 29) 5 (0, 0)) := ⟨⟨B1.out, k01.out⟩, hZ1.out⟩
          refine take_ (i := 25) (N := some 45) (v := ?_) (a' := ?_) #[true, true, true, true, true, true, true, true, true, true, true, true, true, true, true, true, true, true, true, true, true, true, true, true, true, true, true, true, true, true, false, false, true, true, true, true, true, true, true, false, false, true, true, true, false, false, true, true, true, true, true, false, false] rfl rfl (by kernel_rfl) (fun _ _ _ h => h) (Or.inl ⟨by rfl, ?_⟩) hHeld ?_ ?_
          rotate_left
          · rintro w' ⟨⟨hb, z0⟩, z1⟩
            have hcv := conv29 w' wA0.heap.size z1
            go_simp
            with_reducible rfl
          rotate_left
          · simp only [Act.put, List.setIfInBounds_toArray, List.set_cons_zero, List.set_cons_succ, i64_w, i32_w]
            rfl
          refine pure_ (i := 30) (N := some 50) (v := ?_) (a' := ?_) #[true, true, true, true, true, true, true, true, true, true, true, true, true, true, true, true, true, true, true, true, true, true, true, true, true, true, true, true, true, true, true, false, true, true, true, true, true, true, true, false, false, true, true, true, false, false, true, true, true, true, true, false, false] rfl rfl (by kernel_rfl) (fun _ _ _ h => h) (Or.inl ⟨by rfl, ?_⟩) ?_ ?_
          rotate_left
          · intro w'
            go_simp
            with_reducible rfl
          rotate_left
          · simp only [Act.put, List.setIfInBounds_toArray, List.set_cons_zero, List.set_cons_succ, i64_w, i32_w]
            rfl
          refine pure_ (i := 31) (N := some 51) (v := ?_) (a' := ?_) #[true, true, true, true, true, true, true, true, true, true, true, true, true, true, true, true, true, true, true, true, true, true, true, true, true, true, true, true, true, true, true, true, true, true, true, true, true, true, true, false, false, true, true, true, false, false, true, true, true, true, true, false, false] rfl rfl (by kernel_rfl) (fun _ _ _ h => h) (Or.inl ⟨by rfl, ?_⟩) ?_ ?_
          rotate_left
          · intro w'
            go_simp
            with_reducible rfl
          rotate_left
          · simp only [Act.put, List.setIfInBounds_toArray, List.set_cons_zero, List.set_cons_succ, i64_w, i32_w]
            rfl
          clear hHeld
          refine one_ (i := 39) (N := some 59) #[true, true, true, true, true, true, true, true, true, true, true, true, true, true, true, true, true, true, true, true, true, true, true, true, true, true, true, true, true, true, true, true, true, true, true, true, true, true, true, true, false, true, true, true, false, false, true, true, true, true, true, false, false] rfl rfl (by kernel_rfl) (by decide) (fun K hK => ?_)
          refine value_ (w1 := ?_) (v := ?_) (by rfl) rfl ?_ ?_
          rotate_left 2
          · go_simp
            constructor
            · rfl
            · rfl
          refine hK.out _ _ (by have h : ((Below w2.heap.size w2 wA2) ∧ wA2.heap[w2.heap.size]? = some (.cells (madeCells #[.int .u8 0] 29) 5 (0, 0))) ∧ wA2.heap[wA0.heap.size]? = some (.cells (madeCells #[.int .u8 0] 29) 5 (0, 0)) := ⟨⟨B2.out, k02.out⟩, k12.out⟩; rw [← hA2.out] at h; exact h) (fun hHeld => ?_)
          clear hK K hHeld
          refine norm_ (a' := ?_) ?_ ?_
          rotate_left
          · show Act.put _ (some 59) _ = _
            simp only [Act.put, List.setIfInBounds_toArray, List.set_cons_zero, List.set_cons_succ, i64_w, i32_w]
            rfl
          rw [hA2.out]
          refine more_ (T := fun w' => w'.heap[wA1.heap.size]? = some (.cells (madeCells #[.int .u8 0] 29) 5 (0, 0))) _ _ _ _ ⟨⟨B2.out, k02.out⟩, k12.out⟩ hZ2.out ?_
          have hHeld : (((Below w2.heap.size w2 wA2) ∧ wA2.heap[w2.heap.size]? = some (.cells (madeCells #[.int .u8 0] 29) 5 (0, 0))) ∧ wA2.heap[wA0.heap.size]? = some (.cells (madeCells #[.int .u8 0] 29) 5 (0, 0))) ∧ wA2.heap[wA1.heap.size]? = some (.cells (madeCells #[.int .u8 0] 29) 5 (0, 0)) := ⟨⟨⟨B2.out, k02.out⟩, k12.out⟩, hZ2.out⟩
          refine take_ (i := 40) (N := some 60) (v := ?_) (a' := ?_) #[true, true, true, true, true, true, true, true, true, true, true, true, true, true, true, true, true, true, true, true, true, true, true, true, true, true, true, true, true, true, true, true, true, true, true, true, true, true, true, true, true, true, true, true, false, false, true, true, true, true, true, false, false] rfl rfl (by kernel_rfl) (fun _ _ _ h => h) (Or.inl ⟨by rfl, ?_⟩) hHeld ?_ ?_
          rotate_left
          · rintro w' ⟨⟨⟨hb, z0⟩, z1⟩, z2⟩
            have hcv := conv29 w' wA1.heap.size z2
            go_simp
            with_reducible rfl
          rotate_left
          · simp only [Act.put, List.setIfInBounds_toArray, List.set_cons_zero, List.set_cons_succ, i64_w, i32_w]
            rfl
          refine pure_ (i := 44) (N := some 64) (v := ?_) (a' := ?_) #[true, true, true, true, true, true, true, true, true, true, true, true, true, true, true, true, true, true, true, true, true, true, true, true, true, true, true, true, true, true, true, true, true, true, true, true, true, true, true, true, true, true, true, true, true, false, true, true, true, true, true, false, false] rfl rfl (by kernel_rfl) (fun _ _ _ h => h) (Or.inl ⟨by rfl, ?_⟩) ?_ ?_
          rotate_left
          · intro w'
            go_simp
            with_reducible rfl
          rotate_left
          · simp only [Act.put, List.setIfInBounds_toArray, List.set_cons_zero, List.set_cons_succ, i64_w, i32_w]
            rfl
          refine pure_ (i := 45) (N := some 65) (v := ?_) (a' := ?_) #[true, true, true, true, true, true, true, true, true, true, true, true, true, true, true, true, true, true, true, true, true, true, true, true, true, true, true, true, true, true, true, true, true, true, true, true, true, true, true, true, true, true, true, true, true, true, true, true, true, true, true, false, false] rfl rfl (by kernel_rfl) (fun _ _ _ h => h) (Or.inl ⟨by rfl, ?_⟩) ?_ ?_
          rotate_left
          · intro w'
            go_simp
            with_reducible rfl
          rotate_left
          · simp only [Act.put, List.setIfInBounds_toArray, List.set_cons_zero, List.set_cons_succ, i64_w, i32_w]
            rfl
          clear hHeld
          refine norm_ ?_ (hJ ((.slice (some ⟨wA0.heap.size, 0, none⟩) 29 29), (.slice (some ⟨w2.heap.size, 0, none⟩) 29 29), (.slice (some ⟨wA1.heap.size, 0, none⟩) 29 29)))
          simp only [putAll, Act.put, List.setIfInBounds_toArray, List.set_cons_zero, List.set_cons_succ]
        · refine value_ (w1 := ?_) (v := ?_) (by rfl) rfl ?_ ?_
          rotate_left 2
          · go_simp
            constructor
            · rfl
            · rfl
          refine hK.out _ _ (by have h : (Below w2.heap.size w2 wA1) ∧ wA1.heap[w2.heap.size]? = some (.cells (madeCells #[.int .u8 0] 29) 5 (0, 0)) := ⟨B1.out, k01.out⟩; rw [← hA1.out] at h; exact h) (fun hHeld => ?_)
          clear hK K hHeld
          refine norm_ (a' := ?_) ?_ ?_
          rotate_left
          · show Act.put _ (some 59) _ = _
            simp only [Act.put, List.setIfInBounds_toArray, List.set_cons_zero, List.set_cons_succ, i64_w, i32_w]
            rfl
          rw [hA1.out]
          refine more_ (T := fun w' => w'.heap[wA0.heap.size]? = some (.cells (madeCells #[.int .u8 0] 29) 5 (0, 0))) _ _ _ _ ⟨B1.out, k01.out⟩ hZ1.out ?_
          have hHeld : ((Below w2.heap.size w2 wA1) ∧ wA1.heap[w2.heap.size]? = some (.cells (madeCells #[.int .u8 0] 29) 5 (0, 0))) ∧ wA1.heap[wA0.heap.size]? = some (.cells (madeCells #[.int .u8 0] 29) 5 (0, 0)) := ⟨⟨B1.out, k01.out⟩, hZ1.out⟩
          refine take_ (i := 40) (N := some 60) (v := ?_) (a' := ?_) #[true, true, true, true, true, true, true, true, true, true, true, true, true, true, true, true, true, true, true, true, true, true, true, true, false, false, true, true, true, true, false, false, true, true, true, true, true, true, true, true, true, true, true, true, false, false, true, true, true, true, true, false, false] rfl rfl (by kernel_rfl) (fun _ _ _ h => h) (Or.inl ⟨by rfl, ?_⟩) hHeld ?_ ?_
          rotate_left
          · rintro w' ⟨⟨hb, z0⟩, z1⟩
            have hcv := conv29 w' wA0.heap.size z1
            go_simp
            with_reducible rfl
          rotate_left
          · simp only [Act.put, List.setIfInBounds_toArray, List.set_cons_zero, List.set_cons_succ, i64_w, i32_w]
            rfl
          refine pure_ (i := 44) (N := some 64) (v := ?_) (a' := ?_) #[true, true, true, true, true, true, true, true, true, true, true, true, true, true, true, true, true, true, true, true, true, true, true, true, false, false, true, true, true, true, false, false, true, true, true, true, true, true, true, true, true, true, true, true, true, false, true, true, true, true, true, false, false] rfl rfl (by kernel_rfl) (fun _ _ _ h => h) (Or.inl ⟨by rfl, ?_⟩) ?_ ?_
          rotate_left
          · intro w'
            go_simp
            with_reducible rfl
          rotate_left
          · simp only [Act.put, List.setIfInBounds_toArray, List.set_cons_zero, List.set_cons_succ, i64_w, i32_w]
            rfl
          refine pure_ (i := 45) (N := some 65) (v := ?_) (a' := ?_) #[true, true, true, true, true, true, true, true, true, true, true, true, true, true, true, true, true, true, true, true, true, true, true, true, false, false, true, true, true, true, false, false, true, true, true, true, true, true, true, true, true, true, true, true, true, true, true, true, true, true, true, false, false] rfl rfl (by kernel_rfl) (fun _ _ _ h => h) (Or.inl ⟨by rfl, ?_⟩) ?_ ?_
          rotate_left
          · intro w'
            go_simp
            with_reducible rfl
          rotate_left
          · simp only [Act.put, List.setIfInBounds_toArray, List.set_cons_zero, List.set_cons_succ, i64_w, i32_w]
            rfl
          clear hHeld
          refine one_ (i := 24) (N := some 44) #[true, true, true, true, true, true, true, true, true, true, true, true, true, true, true, true, true, true, true, true, true, true, true, true, true, false, true, true, true, true, false, false, true, true, true, true, true, true, true, true, true, true, true, true, true, true, true, true, true, true, true, false, false] rfl rfl (by kernel_rfl) (by decide) (fun K hK => ?_)
          refine value_ (w1 := ?_) (v := ?_) (by rfl) rfl ?_ ?_
          rotate_left 2
          · go_simp
            constructor
            · rfl
            · rfl
          refine hK.out _ _ (by have h : ((Below w2.heap.size w2 wA2) ∧ wA2.heap[w2.heap.size]? = some (.cells (madeCells #[.int .u8 0] 29) 5 (0, 0))) ∧ wA2.heap[wA0.heap.size]? = some (.cells (madeCells #[.int .u8 0] 29) 5 (0, 0)) := ⟨⟨B2.out, k02.out⟩, k12.out⟩; rw [← hA2.out] at h; exact h) (fun hHeld => ?_)
          clear hK K hHeld
          refine norm_ (a' := ?_) ?_ ?_
          rotate_left
          · show Act.put _ (some 44) _ = _
            simp only [Act.put, List.setIfInBounds_toArray, List.set_cons_zero, List.set_cons_succ, i64_w, i32_w]
            rfl
          rw [hA2.out]
          refine more_ (T := fun w' => w'.heap[wA1.heap.size]? = some (.cells (madeCells #[.int .u8 0] 29) 5 (0, 0))) _ _ _ _ ⟨⟨B2.out, k02.out⟩, k12.out⟩ hZ2.out ?_
          have hHeld : (((Below w2.heap.size w2 wA2) ∧ wA2.heap[w2.heap.size]? = some (.cells (madeCells #[.int .u8 0] 29) 5 (0, 0))) ∧ wA2.heap[wA0.heap.size]? = some (.cells (madeCells #[.int .u8 0] 29) 5 (0, 0))) ∧ wA2.heap[wA1.heap.size]? = some (.cells (madeCells #[.int .u8 0] 29) 5 (0, 0)) := ⟨⟨⟨B2.out, k02.out⟩, k12.out⟩, hZ2.out⟩
          refine take_ (i := 25) (N := some 45) (v := ?_) (a' := ?_) #[true, true, true, true, true, true, true, true, true, true, true, true, true, true, true, true, true, true, true, true, true, true, true, true, true, true, true, true, true, true, false, false, true, true, true, true, true, true, true, true, true, true, true, true, true, true, true, true, true, true, true, false, false] rfl rfl (by kernel_rfl) (fun _ _ _ h => h) (Or.inl ⟨by rfl, ?_⟩) hHeld ?_ ?_
          rotate_left
          · rintro w' ⟨⟨⟨hb, z0⟩, z1⟩, z2⟩
            have hcv := conv29 w' wA1.heap.size z2
            go_simp
            with_reducible rfl
          rotate_left
          · simp only [Act.put, List.setIfInBounds_toArray, List.set_cons_zero, List.set_cons_succ, i64_w, i32_w]
            rfl
          refine pure_ (i := 30) (N := some 50) (v := ?_) (a' := ?_) #[true, true, true, true, true, true, true, true, true, true, true, true, true, true, true, true, true, true, true, true, true, true, true, true, true, true, true, true, true, true, true, false, true, true, true, true, true, true, true, true, true, true, true, true, true, true, true, true, true, true, true, false, false] rfl rfl (by kernel_rfl) (fun _ _ _ h => h) (Or.inl ⟨by rfl, ?_⟩) ?_ ?_
          rotate_left
          · intro w'
            go_simp
            with_reducible rfl
          rotate_left
          · simp only [Act.put, List.setIfInBounds_toArray, List.set_cons_zero, List.set_cons_succ, i64_w, i32_w]
            rfl
          refine pure_ (i := 31) (N := some 51) (v := ?_) (a' := ?_) #[true, true, true, true, true, true, true, true, true, true, true, true, true, true, true, true, true, true, true, true, true, true, true, true, true, true, true, true, true, true, true, true, true, true, true, true, true, true, true, true, true, true, true, true, true, true, true, true, true, true, true, false, false] rfl rfl (by kernel_rfl) (fun _ _ _ h => h) (Or.inl ⟨by rfl, ?_⟩) ?_ ?_
          rotate_left
          · intro w'
            go_simp
            with_reducible rfl
          rotate_left
          · simp only [Act.put, List.setIfInBounds_toArray, List.set_cons_zero, List.set_cons_succ, i64_w, i32_w]
            rfl
          clear hHeld
          refine norm_ ?_ (hJ ((.slice (some ⟨wA1.heap.size, 0, none⟩) 29 29), (.slice (some ⟨w2.heap.size, 0, none⟩) 29 29), (.slice (some ⟨wA0.heap.size, 0, none⟩) 29 29)))
          simp only [putAll, Act.put, List.setIfInBounds_toArray, List.set_cons_zero, List.set_cons_succ]
      · refine value_ (w1 := ?_) (v := ?_) (by rfl) rfl ?_ ?_
        rotate_left 2
        · go_simp
          constructor
          · rfl
          · rfl
        refine hK.out _ _ (by have h : Below w2.heap.size w2 wA0 := B0.out; rw [← hA0.out] at h; exact h) (fun hHeld => ?_)
        clear hK K hHeld
        refine norm_ (a' := ?_) ?_ ?_
        rotate_left
        · show Act.put _ (some 59) _ = _
          simp only [Act.put, List.setIfInBounds_toArray, List.set_cons_zero, List.set_cons_succ, i64_w, i32_w]
          rfl
        rw [hA0.out]
        refine more_ (T := fun w' => w'.heap[w2.heap.size]? = some (.cells (madeCells #[.int .u8 0] 29) 5 (0, 0))) _ _ _ _ B0.out hZ0.out ?_
        have hHeld : (Below w2.heap.size w2 wA0) ∧ wA0.heap[w2.heap.size]? = some (.cells (madeCells #[.int .u8 0] 29) 5 (0, 0)) := ⟨B0.out, hZ0.out⟩
        refine take_ (i := 40) (N := some 60) (v := ?_) (a' := ?_) #[true, true, true, true, true, true, true, true, true, true, true, true, true, true, true, true, true, true, true, true, true, true, true, true, false, false, true, true, true, true, false, false, false, false, true, true, true, false, false, true, true, true, true, true, false, false, true, true, true, true, true, false, false] rfl rfl (by kernel_rfl) (fun _ _ _ h => h) (Or.inl ⟨by rfl, ?_⟩) hHeld ?_ ?_
        rotate_left
        · rintro w' ⟨hb, z0⟩
          have hcv := conv29 w' w2.heap.size z0
          go_simp
          with_reducible rfl
        rotate_left
        · simp only [Act.put, List.setIfInBounds_toArray, List.set_cons_zero, List.set_cons_succ, i64_w, i32_w]
          rfl
        refine pure_ (i := 44) (N := some 64) (v := ?_) (a' := ?_) #[true, true, true, true, true, true, true, true, true, true, true, true, true, true, true, true, true, true, true, true, true, true, true, true, false, false, true, true, true, true, false, false, false, false, true, true, true, false, false, true, true, true, true, true, true, false, true, true, true, true, true, false, false] rfl rfl (by kernel_rfl) (fun _ _ _ h => h) (Or.inl ⟨by rfl, ?_⟩) ?_ ?_
        rotate_left
        · intro w'
          go_simp
          with_reducible rfl
        rotate_left
        · simp only [Act.put, List.setIfInBounds_toArray, List.set_cons_zero, List.set_cons_succ, i64_w, i32_w]
          rfl
        refine pure_ (i := 45) (N := some 65) (v := ?_) (a' := ?_) #[true, true, true, true, true, true, true, true, true, true, true, true, true, true, true, true, true, true, true, true, true, true, true, true, false, false, true, true, true, true, false, false, false, false, true, true, true, false, false, true, true, true, true, true, true, true, true, true, true, true, true, false, false] rfl rfl (by kernel_rfl) (fun _ _ _ h => h) (Or.inl ⟨by rfl, ?_⟩) ?_ ?_
        rotate_left
        · intro w'
          go_simp
          with_reducible rfl
        rotate_left
        · simp only [Act.put, List.setIfInBounds_toArray, List.set_cons_zero, List.set_cons_succ, i64_w, i32_w]
          rfl
        clear hHeld
        refine two_ (i := 24) (j := 32) (Ni := some 44) (Nj := some 52) #[true, true, true, true, true, true, true, true, true, true, true, true, true, true, true, true, true, true, true, true, true, true, true, true, true, false, true, true, true, true, false, false, false, false, true, true, true, false, false, true, true, true, true, true, true, true, true, true, true, true, true, false, false] #[true, true, true, true, true, true, true, true, true, true, true, true, true, true, true, true, true, true, true, true, true, true, true, true, false, false, true, true, true, true, false, false, true, false, true, true, true, false, false, true, true, true, true, true, true, true, true, true, true, true, true, false, false] rfl rfl rfl rfl (by kernel_rfl) (by decide) (by decide) (fun K hK => ?_) (fun K hK => ?_)
        · refine value_ (w1 := ?_) (v := ?_) (by rfl) rfl ?_ ?_
          rotate_left 2
          · go_simp
            constructor
            · rfl
            · rfl
          refine hK.out _ _ (by have h : (Below w2.heap.size w2 wA1) ∧ wA1.heap[w2.heap.size]? = some (.cells (madeCells #[.int .u8 0] 29) 5 (0, 0)) := ⟨B1.out, k01.out⟩; rw [← hA1.out] at h; exact h) (fun hHeld => ?_)
          clear hK K hHeld
          refine norm_ (a' := ?_) ?_ ?_
          rotate_left
          · show Act.put _ (some 44) _ = _
            simp only [Act.put, List.setIfInBounds_toArray, List.set_cons_zero, List.set_cons_succ, i64_w, i32_w]
            rfl
          rw [hA1.out]
          refine more_ (T := fun w' => w'.heap[wA0.heap.size]? = some (.cells (madeCells #[.int .u8 0] 29) 5 (0, 0))) _ _ _ _ ⟨B1.out, k01.out⟩ hZ1.out ?_
          have hHeld : ((Below w2.heap.size w2 wA1) ∧ wA1.heap[w2.heap.size]? = some (.cells (madeCells #[.int .u8 0] 29) 5 (0, 0))) ∧ wA1.heap[wA0.heap.size]? = some (.cells (madeCells #[.int .u8 0] 29) 5 (0, 0)) := ⟨⟨B1.out, k01.out⟩, hZ1.out⟩
          refine take_ (i := 25) (N := some 45) (v := ?_) (a' := ?_) #[true, true, true, true, true, true, true, true, true, true, true, true, true, true, true, true, true, true, true, true, true, true, true, true, true, true, true, true, true, true, false, false, false, false, true, true, true, false, false, true, true, true, true, true, true, true, true, true, true, true, true, false, false] rfl rfl (by kernel_rfl) (fun _ _ _ h => h) (Or.inl ⟨by rfl, ?_⟩) hHeld ?_ ?_
          rotate_left
          · rintro w' ⟨⟨hb, z0⟩, z1⟩
            have hcv := conv29 w' wA0.heap.size z1
            go_simp
            with_reducible rfl
          rotate_left
          · simp only [Act.put, List.setIfInBounds_toArray, List.set_cons_zero, List.set_cons_succ, i64_w, i32_w]
            rfl
          refine pure_ (i := 30) (N := some 50) (v := ?_) (a' := ?_) #[true, true, true, true, true, true, true, true, true, true, true, true, true, true, true, true, true, true, true, true, true, true, true, true, true, true, true, true, true, true, true, false, false, false, true, true, true, false, false, true, true, true, true, true, true, true, true, true, true, true, true, false, false] rfl rfl (by kernel_rfl) (fun _ _ _ h => h) (Or.inl ⟨by rfl, ?_⟩) ?_ ?_
          rotate_left
          · intro w'
            go_simp
            with_reducible rfl
          rotate_left
          · simp only [Act.put, List.setIfInBounds_toArray, List.set_cons_zero, List.set_cons_succ, i64_w, i32_w]
            rfl
          refine pure_ (i := 31) (N := some 51) (v := ?_) (a' := ?_) #[true, true, true, true, true, true, true, true, true, true, true, true, true, true, true, true, true, true, true, true, true, true, true, true, true, true, true, true, true, true, true, true, false, false, true, true, true, false, false, true, true, true, true, true, true, true, true, true, true, true, true, false, false] rfl rfl (by kernel_rfl) (fun _ _ _ h => h) (Or.inl ⟨by rfl, ?_⟩) ?_ ?_
          rotate_left
          · intro w'
            go_simp
            with_reducible rfl
          rotate_left
          · simp only [Act.put, List.setIfInBounds_toArray, List.set_cons_zero, List.set_cons_succ, i64_w, i32_w]
            rfl
          clear hHeld
          refine one_ (i := 32) (N := some 52) #[true, true, true, true, true, true, true, true, true, true, true, true, true, true, true, true, true, true, true, true, true, true, true, true, true, true, true, true, true, true, true, true, true, false, true, true, true, false, false, true, true, true, true, true, true, true, true, true, true, true, true, false, false] rfl rfl (by kernel_rfl) (by decide) (fun K hK => ?_)
          refine value_ (w1 := ?_) (v := ?_) (by rfl) rfl ?_ ?_
          rotate_left 2
          · go_simp
            constructor
            · rfl
            · rfl
          refine hK.out _ _ (by have h : ((Below w2.heap.size w2 wA2) ∧ wA2.heap[w2.heap.size]? = some (.cells (madeCells #[.int .u8 0] 29) 5 (0, 0))) ∧ wA2.heap[wA0.heap.size]? = some (.cells (madeCells #[.int .u8 0] 29) 5 (0, 0)) := ⟨⟨B2.out, k02.out⟩, k12.out⟩; rw [← hA2.out] at h; exact h) (fun hHeld => ?_)
          clear hK K hHeld
          refine norm_ (a' := ?_) ?_ ?_
          rotate_left
          · show Act.put _ (some 52) _ = _
            simp only [Act.put, List.setIfInBounds_toArray, List.set_cons_zero, List.set_cons_succ, i64_w, i32_w]
            rfl
          rw [hA2.out]
          refine more_ (T := fun w' => w'.heap[wA1.heap.size]? = some (.cells (madeCells #[.int .u8 0] 29) 5 (0, 0))) _ _ _ _ ⟨⟨B2.out, k02.out⟩, k12.out⟩ hZ2.out ?_
          have hHeld : (((Below w2.heap.size w2 wA2) ∧ wA2.heap[w2.heap.size]? = some (.cells (madeCells #[.int .u8 0] 29) 5 (0, 0))) ∧ wA2.heap[wA0.heap.size]? = some (.cells (madeCells #[.int .u8 0] 29) 5 (0, 0))) ∧ wA2.heap[wA1.heap.size]? = some (.cells (madeCells #[.int .u8 0] 29) 5 (0, 0)) := ⟨⟨⟨B2.out, k02.out⟩, k12.out⟩, hZ2.out⟩
          refine take_ (i := 33) (N := some 53) (v := ?_) (a' := ?_) #[true, true, true, true, true, true, true, true, true, true, true, true, true, true, true, true, true, true, true, true, true, true, true, true, true, true, true, true, true, true, true, true, true, true, true, true, true, false, false, true, true, true, true, true, true, true, true, true, true, true, true, false, false] rfl rfl (by kernel_rfl) (fun _ _ _ h => h) (Or.inl ⟨by rfl, ?_⟩) hHeld ?_ ?_
          rotate_left
          · rintro w' ⟨⟨⟨hb, z0⟩, z1⟩, z2⟩
            have hcv := conv29 w' wA1.heap.size z2
            go_simp
            with_reducible rfl
          rotate_left
          · simp only [Act.put, List.setIfInBounds_toArray, List.set_cons_zero, List.set_cons_succ, i64_w, i32_w]
            rfl
          refine pure_ (i := 37) (N := some 57) (v := ?_) (a' := ?_) #[true, true, true, true, true, true, true, true, true, true, true, true, true, true, true, true, true, true, true, true, true, true, true, true, true, true, true, true, true, true, true, true, true, true, true, true, true, true, false, true, true, true, true, true, true, true, true, true, true, true, true, false, false] rfl rfl (by kernel_rfl) (fun _ _ _ h => h) (Or.inl ⟨by rfl, ?_⟩) ?_ ?_
          rotate_left
          · intro w'
            go_simp
            with_reducible rfl
          rotate_left
          · simp only [Act.put, List.setIfInBounds_toArray, List.set_cons_zero, List.set_cons_succ, i64_w, i32_w]
            rfl
          refine pure_ (i := 38) (N := some 58) (v := ?_) (a' := ?_) #[true, true, true, true, true, true, true, true, true, true, true, true, true, true, true, true, true, true, true, true, true, true, true, true, true, true, true, true, true, true, true, true, true, true, true, true, true, true, true, true, true, true, true, true, true, true, true, true, true, true, true, false, false] rfl rfl (by kernel_rfl) (fun _ _ _ h => h) (Or.inl ⟨by rfl, ?_⟩) ?_ ?_
          rotate_left
          · intro w'
            go_simp
            with_reducible rfl
          rotate_left
          · simp only [Act.put, List.setIfInBounds_toArray, List.set_cons_zero, List.set_cons_succ, i64_w, i32_w]
            rfl
          clear hHeld
          refine norm_ ?_ (hJ ((.slice (some ⟨wA0.heap.size, 0, none⟩) 29 29), (.slice (some ⟨wA1.heap.size, 0, none⟩) 29 29), (.slice (some ⟨w2.heap.size, 0, none⟩) 29 29)))
          simp only [putAll, Act.put, List.setIfInBounds_toArray, List.set_cons_zero, List.set_cons_succ]
        · refine value_ (w1 := ?_) (v := ?_) (by rfl) rfl ?_ ?_
          rotate_left 2
          · go_simp
            constructor
            · rfl
            · rfl
          refine hK.out _ _ (by have h : (Below w2.heap.size w2 wA1) ∧ wA1.heap[w2.heap.size]? = some (.cells (madeCells #[.int .u8 0] 29) 5 (0, 0)) := ⟨B1.out, k01.out⟩; rw [← hA1.out] at h; exact h) (fun hHeld => ?_)
          clear hK K hHeld
          refine norm_ (a' := ?_) ?_ ?_
          rotate_left
          · show Act.put _ (some 52) _ = _
            simp only [Act.put, List.setIfInBounds_toArray, List.set_cons_zero, List.set_cons_succ, i64_w, i32_w]
            rfl
          rw [hA1.out]
          refine more_ (T := fun w' => w'.heap[wA0.heap.size]? = some (.cells (madeCells #[.int .u8 0] 29) 5 (0, 0))) _ _ _ _ ⟨B1.out, k01.out⟩ hZ1.out ?_
          have hHeld : ((Below w2.heap.size w2 wA1) ∧ wA1.heap[w2.heap.size]? = some (.cells (madeCells #[.int .u8 0] 29) 5 (0, 0))) ∧ wA1.heap[wA0.heap.size]? = some (.cells (madeCells #[.int .u8 0] 29) 5 (0, 0)) := ⟨⟨B1.out, k01.out⟩, hZ1.out⟩
          refine take_ (i := 33) (N := some 53) (v := ?_) (a' := ?_) #[true, true, true, true, true, true, true, true, true, true, true, true, true, true, true, true, true, true, true, true, true, true, true, true, false, false, true, true, true, true, false, false, true, true, true, true, true, false, false, true, true, true, true, true, true, true, true, true, true, true, true, false, false] rfl rfl (by kernel_rfl) (fun _ _ _ h => h) (Or.inl ⟨by rfl, ?_⟩) hHeld ?_ ?_
          rotate_left
          · rintro w' ⟨⟨hb, z0⟩, z1⟩
            have hcv := conv29 w' wA0.heap.size z1
            go_simp
            with_reducible rfl
          rotate_left
          · simp only [Act.put, List.setIfInBounds_toArray, List.set_cons_zero, List.set_cons_succ, i64_w, i32_w]
            rfl
          refine pure_ (i := 37) (N := some 57) (v := ?_) (a' := ?_) #[true, true, true, true, true, true, true, true, true, true, true, true, true, true, true, true, true, true, true, true, true, true, true, true, false, false, true, true, true, true, false, false, true, true, true, true, true, true, false, true, true, true, true, true, true, true, true, true, true, true, true, false, false] rfl rfl (by kernel_rfl) (fun _ _ _ h => h) (Or.inl ⟨by rfl, ?_⟩) ?_ ?_
          rotate_left
          · intro w'
            go_simp
            with_reducible rfl
          rotate_left
          · simp only [Act.put, List.setIfInBounds_toArray, List.set_cons_zero, List.set_cons_succ, i64_w, i32_w]
            rfl
          refine pure_ (i := 38) (N := some 58) (v := ?_) (a' := ?_) #[true, true, true, true, true, true, true, true, true, true, true, true, true, true, true, true, true, true, true, true, true, true, true, true, false, false, true, true, true, true, false, false, true, true, true, true, true, true, true, true, true, true, true, true, true, true, true, true, true, true, true, false, false] rfl rfl (by kernel_rfl) (fun _ _ _ h => h) (Or.inl ⟨by rfl, ?_⟩) ?_ ?_
          rotate_left
          · intro w'
            go_simp
            with_reducible rfl
          rotate_left
          · simp only [Act.put, List.setIfInBounds_toArray, List.set_cons_zero, List.set_cons_succ, i64_w, i32_w]
            rfl
          clear hHeld
          refine one_ (i := 24) (N := some 44) #[true, true, true, true, true, true, true, true, true, true, true, true, true, true, true, true, true, true, true, true, true, true, true, true, true, false, true, true, true, true, false, false, true, true, true, true, true, true, true, true, true, true, true, true, true, true, true, true, true, true, true, false, false] rfl rfl (by kernel_rfl) (by decide) (fun K hK => ?_)
          refine value_ (w1 := ?_) (v := ?_) (by rfl) rfl ?_ ?_
          rotate_left 2
          · go_simp
            constructor
            · rfl
            · rfl
          refine hK.out _ _ (by have h : ((Below w2.heap.size w2 wA2) ∧ wA2.heap[w2.heap.size]? = some (.cells (madeCells #[.int .u8 0] 29) 5 (0, 0))) ∧ wA2.heap[wA0.heap.size]? = some (.cells (madeCells #[.int .u8 0] 29) 5 (0, 0)) := ⟨⟨B2.out, k02.out⟩, k12.out⟩; rw [← hA2.out] at h; exact h) (fun hHeld => ?_)
          clear hK K hHeld
          refine norm_ (a' := ?_) ?_ ?_
          rotate_left
          · show Act.put _ (some 44) _ = _
            simp only [Act.put, List.setIfInBounds_toArray, List.set_cons_zero, List.set_cons_succ, i64_w, i32_w]
            rfl
          rw [hA2.out]
          refine more_ (T := fun w' => w'.heap[wA1.heap.size]? = some (.cells (madeCells #[.int .u8 0] 29) 5 (0, 0))) _ _ _ _ ⟨⟨B2.out, k02.out⟩, k12.out⟩ hZ2.out ?_
          have hHeld : (((Below w2.heap.size w2 wA2) ∧ wA2.heap[w2.heap.size]? = some (.cells (madeCells #[.int .u8 0] 29) 5 (0, 0))) ∧ wA2.heap[wA0.heap.size]? = some (.cells (madeCells #[.int .u8 0] 29) 5 (0, 0))) ∧ wA2.heap[wA1.heap.size]? = some (.cells (madeCells #[.int .u8 0] 29) 5 (0, 0)) := ⟨⟨⟨B2.out, k02.out⟩, k12.out⟩, hZ2.out⟩
          refine take_ (i := 25) (N := some 45) (v := ?_) (a' := ?_) #[true, true, true, true, true, true, true, true, true, true, true, true, true, true, true, true, true, true, true, true, true, true, true, true, true, true, true, true, true, true, false, false, true, true, true, true, true, true, true, true, true, true, true, true, true, true, true, true, true, true, true, false, false] rfl rfl (by kernel_rfl) (fun _ _ _ h => h) (Or.inl ⟨by rfl, ?_⟩) hHeld ?_ ?_
          rotate_left
          · rintro w' ⟨⟨⟨hb, z0⟩, z1⟩, z2⟩
            have hcv := conv29 w' wA1.heap.size z2
            go_simp
            with_reducible rfl
          rotate_left
          · simp only [Act.put, List.setIfInBounds_toArray, List.set_cons_zero, List.set_cons_succ, i64_w, i32_w]
            rfl
          refine pure_ (i := 30) (N := some 50) (v := ?_) (a' := ?_) #[true, true, true, true, true, true, true, true, true, true, true, true, true, true, true, true, true, true, true, true, true, true, true, true, true, true, true, true, true, true, true, false, true, true, true, true, true, true, true, true, true, true, true, true, true, true, true, true, true, true, true, false, false] rfl rfl (by kernel_rfl) (fun _ _ _ h => h) (Or.inl ⟨by rfl, ?_⟩) ?_ ?_
          rotate_left
          · intro w'
            go_simp
            with_reducible rfl
          rotate_left
          · simp only [Act.put, List.setIfInBounds_toArray, List.set_cons_zero, List.set_cons_succ, i64_w, i32_w]
            rfl
          refine pure_ (i := 31) (N := some 51) (v := ?_) (a' := ?_) #[true, true, true, true, true, true, true, true, true, true, true, true, true, true, true, true, true, true, true, true, true, true, true, true, true, true, true, true, true, true, true, true, true, true, true, true, true, true, true, true, true, true, true, true, true, true, true, true, true, true, true, false, false] rfl rfl (by kernel_rfl) (fun _ _ _ h => h) (Or.inl ⟨by rfl, ?_⟩) ?_ ?_
          rotate_left
          · intro w'
            go_simp
            with_reducible rfl
          rotate_left
          · simp only [Act.put, List.setIfInBounds_toArray, List.set_cons_zero, List.set_cons_succ, i64_w, i32_w]
            rfl
          clear hHeld
          refine norm_ ?_ (hJ ((.slice (some ⟨wA1.heap.size, 0, none⟩) 29 29), (.slice (some ⟨wA0.heap.size, 0, none⟩) 29 29), (.slice (some ⟨w2.heap.size, 0, none⟩) 29 29)))
          simp only [putAll, Act.put, List.setIfInBounds_toArray, List.set_cons_zero, List.set_cons_succ]
    case rest =>
      obtain ⟨c, n0, n1, n3, n4, n6, n7, n8, rfl, q0, q1, q3, q4, q6, q7, q8, hc, hbx⟩ := hcut
      have hall : ∀ k, k < 10 → ∃ v, (#[.iface 48 (.agg #[.string ⟨#[97]⟩, .int .i64 n0]), .iface 48 (.agg #[.string ⟨#[97]⟩, .int .i64 n1]), .iface 50 (.agg #[.int .i64 0, .int .i64 1, .int .i64 0, .int .i64 0]), .iface 50 (.agg #[.int .i64 1, .int .i64 n3, .int .i64 0, .int .i64 0]), .iface 50 (.agg #[.int .i64 1, .int .i64 0, .int .i64 n4, .int .i64 0]), .iface 52 (.agg #[.string ⟨#[115, 104, 111, 114, 116]⟩]), .iface 55 (.agg #[.string z29, .int .i32 n6]), .iface 57 (.agg #[.string z29, .int .i64 0, .int .i64 n7]), .iface 59 (.agg #[.string z29, .int .i64 n8]), .iface 61 (.agg #[.string (x1 ++ ⟨#[46]⟩)])] : Array Value)[k]? = some v ∧ Bad v := by
        intro k hk
        obtain rfl | rfl | rfl | rfl | rfl | rfl | rfl | rfl | rfl | rfl : k = 0 ∨ k = 1 ∨ k = 2 ∨ k = 3 ∨ k = 4 ∨ k = 5 ∨ k = 6 ∨ k = 7 ∨ k = 8 ∨ k = 9 := by omega
        · exact ⟨_, rfl, bad0 n0 q0⟩
        · exact ⟨_, rfl, bad1 n1 q1⟩
        · exact ⟨_, rfl, bad2⟩
        · exact ⟨_, rfl, bad3 n3 q3⟩
        · exact ⟨_, rfl, bad4 n4 q4⟩
        · exact ⟨_, rfl, bad5⟩
        · exact ⟨_, rfl, bad6 n6 q6⟩
        · exact ⟨_, rfl, bad7 n7 q7⟩
        · exact ⟨_, rfl, bad8 n8 q8⟩
        · exact ⟨_, rfl, bad9 x1 w0_1⟩
      generalize (#[.iface 48 (.agg #[.string ⟨#[97]⟩, .int .i64 n0]), .iface 48 (.agg #[.string ⟨#[97]⟩, .int .i64 n1]), .iface 50 (.agg #[.int .i64 0, .int .i64 1, .int .i64 0, .int .i64 0]), .iface 50 (.agg #[.int .i64 1, .int .i64 n3, .int .i64 0, .int .i64 0]), .iface 50 (.agg #[.int .i64 1, .int .i64 0, .int .i64 n4, .int .i64 0]), .iface 52 (.agg #[.string ⟨#[115, 104, 111, 114, 116]⟩]), .iface 55 (.agg #[.string z29, .int .i32 n6]), .iface 57 (.agg #[.string z29, .int .i64 0, .int .i64 n7]), .iface 59 (.agg #[.string z29, .int .i64 n8]), .iface 61 (.agg #[.string (x1 ++ ⟨#[46]⟩)])] : Array Value) = cs at hc hall
      clear q0 q1 q3 q4 q6 q7 q8 c1 hcat hmk
      replace hall := hid hall
      replace hc := hid hc
      have hbW := hid (below_then hb2.out hb2.out.size hbx)
      clear hbx hb2
      go_wp2_with fail
      go_loopg [7] 10 (fun g i wr => ∃ k : Nat, i = .int .i64 k ∧ k + g = 10 ∧ Hid (wr.heap[c]? = some (.cells cs 20 (0, 0))) ∧ Hid (Below W.heap.size W wr))
      case atStart => exact ⟨0, rfl, rfl, hc, hbW⟩
      case round =>
        obtain ⟨k, rfl, hk, hcr, hbr⟩ := hrel
        by_cases hlt : k < 10
        · obtain ⟨v, hv, hbad⟩ := hall.out k hlt
          cases gk with
          | zero => omega
          | succ g =>
            have hEn := hid hbad.enc
            have hBe := hid hbad.bears
            have hMu := hid hbad.muts
            have hRi := hid hbad.right
            have hv := hid hv
            clear hbad
            have a1 : wr.cell? ((⟨c, 0, none⟩ : Addr).add k) = some v := by rw [add_plain]; exact (blk_cell hcr.out k).trans hv.out
            have a1b : wr.cell? ⟨c, k, none⟩ = some v := (blk_cell hcr.out k).trans hv.out
            go_upto_region 11 with (first | ((with_reducible refine Calls.mono (hEn.out _) ?_); rintro r w3 ⟨rfl, hb3⟩; replace hcr := hid ((hb3.block _ (blk_lt hcr.out)).trans hcr.out); replace hbr := hid (below_then hbr.out hbr.out.size hb3)))
            have a2 : w3.cell? ((⟨c, 0, none⟩ : Addr).add k) = some v := by rw [add_plain]; exact (blk_cell hcr.out k).trans hv.out
            have a2b : w3.cell? ⟨c, k, none⟩ = some v := (blk_cell hcr.out k).trans hv.out
            go_upto_region 12 with (first | ((with_reducible refine Calls.mono (hBe.out _) ?_); rintro r w4 ⟨rfl, hb4⟩; replace hcr := hid ((hb4.block _ (blk_lt hcr.out)).trans hcr.out); replace hbr := hid (below_then hbr.out hbr.out.size hb4)))
            have a3 : w4.cell? ((⟨c, 0, none⟩ : Addr).add k) = some v := by rw [add_plain]; exact (blk_cell hcr.out k).trans hv.out
            have a3b : w4.cell? ⟨c, k, none⟩ = some v := (blk_cell hcr.out k).trans hv.out
            go_wp2_with (first | ((with_reducible refine Calls.mono (hRi.out _) ?_); rintro r w5 ⟨rfl, hb5⟩; replace hcr := hid ((hb5.block _ (blk_lt hcr.out)).trans hcr.out); replace hbr := hid (below_then hbr.out hbr.out.size hb5); have a4 : w5.cell? ((⟨c, 0, none⟩ : Addr).add k) = some v := (by rw [add_plain]; exact (blk_cell hcr.out k).trans hv.out); have a4b : w5.cell? ⟨c, k, none⟩ = some v := (blk_cell hcr.out k).trans hv.out) | ((with_reducible refine Calls.mono (hMu.out _) ?_); rintro r w6 ⟨rfl, hb6⟩; replace hcr := hid ((hb6.block _ (blk_lt hcr.out)).trans hcr.out); replace hbr := hid (below_then hbr.out hbr.out.size hb6)))
            go_roundg g
            case measure => omega
            case rel => exact ⟨k + 1, by first | rfl | go_num, by omega, hcr, hbr⟩
        · obtain rfl : k = 10 := by omega
          clear hall hc
          go_wp2_with fail
          go_ret
          exact ⟨rfl, hbr.out⟩
end Go.Proofs.Ytfbcidfbgebbhaa.Pure
