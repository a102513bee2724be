/-
  The parts of a request: what each answers to right and write.
-/
import Derived.Test.YtfbcidfbgebbhaaA4
import Derived.Test.YtfbcidfbgebbhaaLa
import Derived.Test.YtfbcidfbgebbhaaB1
namespace Go.Proofs.Ytfbcidfbgebbhaa.C
set_option linter.unusedVariables false
set_option linter.unusedSimpArgs false
open Go.RowKit Go.Proofs.YtfbcidfbgebbhaaW.PrintWords Go.Proofs.YtfbcidfbgebbhaaW.PrintLast Go.Proofs.YtfbcidfbgebbhaaW.PrintMore
open Go.Lib (hid)
theorem cell_on {w w' : World} {ad : Addr} {v : Value} (h : w.cell? ad = some v) (hb : Below w.heap.size w w') : w'.cell? ad = some v := by
  have := hb.block ad.block (World.block_lt_of_cell? w ad h)
  simpa [World.cell?, this] using h
set_option maxHeartbeats 1000000 in
set_option maxRecDepth 100000 in
theorem handleR (ad : Addr) (s : ByteArray) (w : World) (hc : w.cell? ad = some (.string s)) :
    Calls Try.prog 114 #[.agg #[.pointer (some ad)]] w fun e w' => e = .returned (.bool ((s.size : Int) == 29)) ∧ Below w.heap.size w w' := by
  have hc1 := hid (cell_on hc (below_alloc (Below.refl w.heap.size w) (.cells #[.pointer (some ad)] 142)))
  have hB := hid (below_alloc (Below.refl w.heap.size w) (.cells #[.pointer (some ad)] 142))
  have hx : Hid ((w.alloc (.cells #[.pointer (some ad)] 142)).heap[w.heap.size]? = some (.cells #[.pointer (some ad)] 142 (0, 0))) := hid Array.getElem?_push_size
  obtain ⟨z0, hz0⟩ : ∃ z, z = w.heap.size := ⟨_, rfl⟩
  replace hz0 := hid hz0
  clear hc
  go_enter Try.func114, Try.ntmps114
  go_upto_region 1 with fail
  generalize w.alloc (.cells #[.pointer (some ad)] 142) = w1 at *
  have c0 : w1.cell? ad = some (.string s) := hc1.out
  have b0 : w1.cell? ⟨w.heap.size, 0, none⟩ = some (.pointer (some ad)) := (blk_cell hx.out 0).trans rfl
  clear hc1 hx
  go_wp2_with (fail)
  go_ret
  exact ⟨by first | rfl | simp [*], by first | exact hB.out | exact below_then hB.out hB.out.size hb.out | exact hb.out⟩
set_option maxHeartbeats 1000000 in
set_option maxRecDepth 100000 in
theorem handleW (ad : Addr) (s : ByteArray) (w : World) (hc : w.cell? ad = some (.string s)) :
    Calls Try.prog 115 #[.agg #[.pointer (some ad)]] w fun e w' => e = .returned (.string s) ∧ Below w.heap.size w w' := by
  have hc1 := hid (cell_on hc (below_alloc (Below.refl w.heap.size w) (.cells #[.pointer (some ad)] 142)))
  have hB := hid (below_alloc (Below.refl w.heap.size w) (.cells #[.pointer (some ad)] 142))
  have hx : Hid ((w.alloc (.cells #[.pointer (some ad)] 142)).heap[w.heap.size]? = some (.cells #[.pointer (some ad)] 142 (0, 0))) := hid Array.getElem?_push_size
  obtain ⟨z0, hz0⟩ : ∃ z, z = w.heap.size := ⟨_, rfl⟩
  replace hz0 := hid hz0
  clear hc
  go_enter Try.func115, Try.ntmps115
  go_upto_region 1 with fail
  generalize w.alloc (.cells #[.pointer (some ad)] 142) = w1 at *
  have c0 : w1.cell? ad = some (.string s) := hc1.out
  have b0 : w1.cell? ⟨w.heap.size, 0, none⟩ = some (.pointer (some ad)) := (blk_cell hx.out 0).trans rfl
  clear hc1 hx
  go_wp2_with (fail)
  go_ret
  exact ⟨by first | rfl | simp [*], by first | exact hB.out | exact below_then hB.out hB.out.size hb.out | exact hb.out⟩
set_option maxHeartbeats 1000000 in
set_option maxRecDepth 100000 in
theorem nameR (ad : Addr) (s : ByteArray) (r : Bool) (hr : R.Right.f s = some r) (w : World) (hc : w.cell? ad = some (.string s)) :
    Calls Try.prog 98 #[.agg #[.pointer (some ad)]] w fun e w' => e = .returned (.bool r) ∧ Below w.heap.size w w' := by
  have hc1 := hid (cell_on hc (below_alloc (Below.refl w.heap.size w) (.cells #[.pointer (some ad)] 135)))
  have hB := hid (below_alloc (Below.refl w.heap.size w) (.cells #[.pointer (some ad)] 135))
  have hx : Hid ((w.alloc (.cells #[.pointer (some ad)] 135)).heap[w.heap.size]? = some (.cells #[.pointer (some ad)] 135 (0, 0))) := hid Array.getElem?_push_size
  obtain ⟨z0, hz0⟩ : ∃ z, z = w.heap.size := ⟨_, rfl⟩
  replace hz0 := hid hz0
  have hL := hid (fun W => R.Right.calls s r W hr)
  clear hr
  clear hc
  go_enter Try.func98, Try.ntmps98
  go_upto_region 1 with fail
  generalize w.alloc (.cells #[.pointer (some ad)] 135) = w1 at *
  have c0 : w1.cell? ad = some (.string s) := hc1.out
  have b0 : w1.cell? ⟨w.heap.size, 0, none⟩ = some (.pointer (some ad)) := (blk_cell hx.out 0).trans rfl
  clear hc1 hx
  go_wp2_with (first | ((with_reducible refine Calls.mono (hL.out _) ?_); rintro e w2 ⟨rfl, hb⟩; replace hb := hid hb))
  go_ret
  exact ⟨by first | rfl | simp [*], by first | exact hB.out | exact below_then hB.out hB.out.size hb.out | exact hb.out⟩
set_option maxHeartbeats 1000000 in
set_option maxRecDepth 100000 in
theorem nameW (ad : Addr) (s t : ByteArray) (hr : P.proto_text.f s = some t) (w : World) (hc : w.cell? ad = some (.string s)) :
    Calls Try.prog 99 #[.agg #[.pointer (some ad)]] w fun e w' => e = .returned (.string t) ∧ Below w.heap.size w w' := by
  have hc1 := hid (cell_on hc (below_alloc (Below.refl w.heap.size w) (.cells #[.pointer (some ad)] 135)))
  have hB := hid (below_alloc (Below.refl w.heap.size w) (.cells #[.pointer (some ad)] 135))
  have hx : Hid ((w.alloc (.cells #[.pointer (some ad)] 135)).heap[w.heap.size]? = some (.cells #[.pointer (some ad)] 135 (0, 0))) := hid Array.getElem?_push_size
  obtain ⟨z0, hz0⟩ : ∃ z, z = w.heap.size := ⟨_, rfl⟩
  replace hz0 := hid hz0
  have hL := hid (fun W => P.proto_text.calls s t W hr)
  clear hr
  clear hc
  go_enter Try.func99, Try.ntmps99
  go_upto_region 1 with fail
  generalize w.alloc (.cells #[.pointer (some ad)] 135) = w1 at *
  have c0 : w1.cell? ad = some (.string s) := hc1.out
  have b0 : w1.cell? ⟨w.heap.size, 0, none⟩ = some (.pointer (some ad)) := (blk_cell hx.out 0).trans rfl
  clear hc1 hx
  go_wp2_with (first | ((with_reducible refine Calls.mono (hL.out _) ?_); rintro e w2 ⟨rfl, hb⟩; replace hb := hid hb))
  go_ret
  exact ⟨by first | rfl | simp [*], by first | exact hB.out | exact below_then hB.out hB.out.size hb.out | exact hb.out⟩
set_option maxHeartbeats 1000000 in
set_option maxRecDepth 100000 in
theorem boolR (ad : Addr) (b : Bool) (w : World) (hc : w.cell? ad = some (.bool b)) :
    Calls Try.prog 122 #[.agg #[.pointer (some ad)]] w fun e w' => e = .returned (.bool true) ∧ Below w.heap.size w w' := by
  have hc1 := hid (cell_on hc (below_alloc (Below.refl w.heap.size w) (.cells #[.pointer (some ad)] 148)))
  have hB := hid (below_alloc (Below.refl w.heap.size w) (.cells #[.pointer (some ad)] 148))
  have hx : Hid ((w.alloc (.cells #[.pointer (some ad)] 148)).heap[w.heap.size]? = some (.cells #[.pointer (some ad)] 148 (0, 0))) := hid Array.getElem?_push_size
  obtain ⟨z0, hz0⟩ : ∃ z, z = w.heap.size := ⟨_, rfl⟩
  replace hz0 := hid hz0
  clear hc
  go_enter Try.func122, Try.ntmps122
  go_upto_region 1 with fail
  generalize w.alloc (.cells #[.pointer (some ad)] 148) = w1 at *
  have c0 : w1.cell? ad = some (.bool b) := hc1.out
  have b0 : w1.cell? ⟨w.heap.size, 0, none⟩ = some (.pointer (some ad)) := (blk_cell hx.out 0).trans rfl
  clear hc1 hx
  go_wp2_with (fail)
  go_ret
  exact ⟨by first | rfl | simp [*], by first | exact hB.out | exact below_then hB.out hB.out.size hb.out | exact hb.out⟩
set_option maxHeartbeats 1000000 in
set_option maxRecDepth 100000 in
theorem boolW1 (ad : Addr)  (w : World) (hc : w.cell? ad = some (.bool true)) :
    Calls Try.prog 123 #[.agg #[.pointer (some ad)]] w fun e w' => e = .returned (.string ⟨#[1]⟩) ∧ Below w.heap.size w w' := by
  have hc1 := hid (cell_on hc (below_alloc (Below.refl w.heap.size w) (.cells #[.pointer (some ad)] 148)))
  have hB := hid (below_alloc (Below.refl w.heap.size w) (.cells #[.pointer (some ad)] 148))
  have hx : Hid ((w.alloc (.cells #[.pointer (some ad)] 148)).heap[w.heap.size]? = some (.cells #[.pointer (some ad)] 148 (0, 0))) := hid Array.getElem?_push_size
  obtain ⟨z0, hz0⟩ : ∃ z, z = w.heap.size := ⟨_, rfl⟩
  replace hz0 := hid hz0
  clear hc
  go_enter Try.func123, Try.ntmps123
  go_upto_region 1 with fail
  generalize w.alloc (.cells #[.pointer (some ad)] 148) = w1 at *
  have c0 : w1.cell? ad = some (.bool true) := hc1.out
  have b0 : w1.cell? ⟨w.heap.size, 0, none⟩ = some (.pointer (some ad)) := (blk_cell hx.out 0).trans rfl
  clear hc1 hx
  go_wp2_with (fail)
  go_ret
  exact ⟨by first | rfl | simp [*], by first | exact hB.out | exact below_then hB.out hB.out.size hb.out | exact hb.out⟩
set_option maxHeartbeats 1000000 in
set_option maxRecDepth 100000 in
theorem boolW0 (ad : Addr)  (w : World) (hc : w.cell? ad = some (.bool false)) :
    Calls Try.prog 123 #[.agg #[.pointer (some ad)]] w fun e w' => e = .returned (.string ⟨#[0]⟩) ∧ Below w.heap.size w w' := by
  have hc1 := hid (cell_on hc (below_alloc (Below.refl w.heap.size w) (.cells #[.pointer (some ad)] 148)))
  have hB := hid (below_alloc (Below.refl w.heap.size w) (.cells #[.pointer (some ad)] 148))
  have hx : Hid ((w.alloc (.cells #[.pointer (some ad)] 148)).heap[w.heap.size]? = some (.cells #[.pointer (some ad)] 148 (0, 0))) := hid Array.getElem?_push_size
  obtain ⟨z0, hz0⟩ : ∃ z, z = w.heap.size := ⟨_, rfl⟩
  replace hz0 := hid hz0
  clear hc
  go_enter Try.func123, Try.ntmps123
  go_upto_region 1 with fail
  generalize w.alloc (.cells #[.pointer (some ad)] 148) = w1 at *
  have c0 : w1.cell? ad = some (.bool false) := hc1.out
  have b0 : w1.cell? ⟨w.heap.size, 0, none⟩ = some (.pointer (some ad)) := (blk_cell hx.out 0).trans rfl
  clear hc1 hx
  go_wp2_with (fail)
  go_ret
  exact ⟨by first | rfl | simp [*], by first | exact hB.out | exact below_then hB.out hB.out.size hb.out | exact hb.out⟩
set_option maxHeartbeats 1000000 in
set_option maxRecDepth 100000 in
theorem numW (ad : Addr) (n z lo hi : Int) (t : ByteArray) (hr : P.proto_number.f 40 n z = some t) (w : World) (hc : w.cell? ad = some (.int .i64 n)) :
    Calls Try.prog 105 #[.agg #[.pointer (some ad), .int .i64 z, .int .i64 lo, .int .i64 hi]] w fun e w' => e = .returned (.string t) ∧ Below w.heap.size w w' := by
  have hc1 := hid (cell_on hc (below_alloc (Below.refl w.heap.size w) (.cells #[.pointer (some ad), .int .i64 z, .int .i64 lo, .int .i64 hi] 139)))
  have hB := hid (below_alloc (Below.refl w.heap.size w) (.cells #[.pointer (some ad), .int .i64 z, .int .i64 lo, .int .i64 hi] 139))
  have hx : Hid ((w.alloc (.cells #[.pointer (some ad), .int .i64 z, .int .i64 lo, .int .i64 hi] 139)).heap[w.heap.size]? = some (.cells #[.pointer (some ad), .int .i64 z, .int .i64 lo, .int .i64 hi] 139 (0, 0))) := hid Array.getElem?_push_size
  obtain ⟨z0, hz0⟩ : ∃ z, z = w.heap.size := ⟨_, rfl⟩
  replace hz0 := hid hz0
  have hL := hid (fun W => P.proto_number.calls 40 n z t W hr)
  clear hr
  clear hc
  go_enter Try.func105, Try.ntmps105
  go_upto_region 1 with fail
  generalize w.alloc (.cells #[.pointer (some ad), .int .i64 z, .int .i64 lo, .int .i64 hi] 139) = w1 at *
  have c0 : w1.cell? ad = some (.int .i64 n) := hc1.out
  have b0 : w1.cell? ⟨w.heap.size, 0, none⟩ = some (.pointer (some ad)) := (blk_cell hx.out 0).trans rfl
  have b1 : w1.cell? ⟨w.heap.size, 1, none⟩ = some (.int .i64 z) := (blk_cell hx.out 1).trans rfl
  have b2 : w1.cell? ⟨w.heap.size, 2, none⟩ = some (.int .i64 lo) := (blk_cell hx.out 2).trans rfl
  have b3 : w1.cell? ⟨w.heap.size, 3, none⟩ = some (.int .i64 hi) := (blk_cell hx.out 3).trans rfl
  clear hc1 hx
  refine start_ (n := 8) (S := fun w' => w'.cell? ad = some (.int .i64 n) ∧ w'.cell? ⟨w.heap.size, 0, none⟩ = some (.pointer (some ad)) ∧ w'.cell? ⟨w.heap.size, 1, none⟩ = some (.int .i64 z)) (ds := [6]) #[false, false, false, false, false, false, false, false] (by kernel_rfl) rfl rfl ⟨c0, b0, b1⟩ (fun hHeld => ?_)
  refine pure_ (i := 0) (N := some 3) (v := ?_) (a' := ?_) #[true, false, false, false, false, false, false, false] rfl rfl (by kernel_rfl) (fun _ _ _ h => h) (Or.inl ⟨by rfl, ?_⟩) ?_ ?_
  rotate_left
  · intro w'
    go_simp
    with_reducible rfl
  rotate_left
  · simp only [Act.put, List.setIfInBounds_toArray, List.set_cons_zero, List.set_cons_succ, i64_w, i32_w]
    rfl
  refine take_ (i := 1) (N := some 4) (v := ?_) (a' := ?_) #[true, true, false, false, false, false, false, false] rfl rfl (by kernel_rfl) (fun _ _ _ h => h) (Or.inl ⟨by rfl, ?_⟩) hHeld ?_ ?_
  rotate_left
  · rintro w' ⟨c0, b0, b1⟩
    go_simp
    with_reducible rfl
  rotate_left
  · simp only [Act.put, List.setIfInBounds_toArray, List.set_cons_zero, List.set_cons_succ, i64_w, i32_w]
    rfl
  refine pure_ (i := 2) (N := some 5) (v := ?_) (a' := ?_) #[true, true, true, false, false, false, false, false] rfl rfl (by kernel_rfl) (fun _ _ _ h => h) (Or.inl ⟨by rfl, ?_⟩) ?_ ?_
  rotate_left
  · intro w'
    go_simp
    with_reducible rfl
  rotate_left
  · simp only [Act.put, List.setIfInBounds_toArray, List.set_cons_zero, List.set_cons_succ, i64_w, i32_w]
    rfl
  refine take_ (i := 3) (N := some 6) (v := ?_) (a' := ?_) #[true, true, true, true, false, false, false, false] rfl rfl (by kernel_rfl) (fun _ _ _ h => h) (Or.inl ⟨by rfl, ?_⟩) hHeld ?_ ?_
  rotate_left
  · rintro w' ⟨c0, b0, b1⟩
    go_simp
    with_reducible rfl
  rotate_left
  · simp only [Act.put, List.setIfInBounds_toArray, List.set_cons_zero, List.set_cons_succ, i64_w, i32_w]
    rfl
  refine pure_ (i := 4) (N := some 7) (v := ?_) (a' := ?_) #[true, true, true, true, true, false, false, false] rfl rfl (by kernel_rfl) (fun _ _ _ h => h) (Or.inl ⟨by rfl, ?_⟩) ?_ ?_
  rotate_left
  · intro w'
    go_simp
    with_reducible rfl
  rotate_left
  · simp only [Act.put, List.setIfInBounds_toArray, List.set_cons_zero, List.set_cons_succ, i64_w, i32_w]
    rfl
  refine take_ (i := 5) (N := some 8) (v := ?_) (a' := ?_) #[true, true, true, true, true, true, false, false] rfl rfl (by kernel_rfl) (fun _ _ _ h => h) (Or.inl ⟨by rfl, ?_⟩) hHeld ?_ ?_
  rotate_left
  · rintro w' ⟨c0, b0, b1⟩
    go_simp
    with_reducible rfl
  rotate_left
  · simp only [Act.put, List.setIfInBounds_toArray, List.set_cons_zero, List.set_cons_succ, i64_w, i32_w]
    rfl
  refine last_ (i := 6) (N := some 9) #[true, true, true, true, true, true, true, false] rfl rfl (by kernel_rfl) (by decide) (fun K hK => ?_)
  refine goes_ Try.func18 (by kernel_rfl) rfl #[.int .i64 n, .int .i64 z] (by rfl) rfl rfl (by (try simp only [List.map_toArray, List.map_cons, List.map_nil]); first | done | rfl) ?_
  refine (hL.out _).mono ?_
  rintro e w2 ⟨rfl, hb⟩
  refine ⟨_, rfl, ?_⟩
  refine hK.out _ _ ?_
  clear hK K
  refine norm_ (a' := ?_) ?_ ?_
  rotate_left
  · show Act.put _ (some 9) _ = _
    simp only [Act.put, List.setIfInBounds_toArray, List.set_cons_zero, List.set_cons_succ, i64_w, i32_w]
    rfl
  refine pure_ (i := 7) (N := some 2) (v := ?_) (a' := ?_) #[true, true, true, true, true, true, true, true] rfl rfl (by kernel_rfl) (fun _ _ _ h => h) (Or.inl ⟨by rfl, ?_⟩) ?_ ?_
  rotate_left
  · intro w'
    go_simp
    with_reducible rfl
  rotate_left
  · simp only [Act.put, List.setIfInBounds_toArray, List.set_cons_zero, List.set_cons_succ, i64_w, i32_w]
    rfl
  refine done_ (by kernel_rfl) ?_
  replace hb := hid (below_then (below_drew hB.out) hB.out.size hb)
  go_wp2_with fail
  go_ret
  exact ⟨by first | rfl | simp [*], by first | exact hB.out | exact below_then hB.out hB.out.size hb.out | exact hb.out⟩
set_option maxHeartbeats 1000000 in
set_option maxRecDepth 100000 in
theorem maskR (ad : Addr) (n : Int) (r : Bool) (hr : Q.rights_Sub.f n n = some r) (w : World) (hc : w.cell? ad = some (.int .i64 n)) :
    Calls Try.prog 107 #[.agg #[.pointer (some ad)]] w fun e w' => e = .returned (.bool r) ∧ Below w.heap.size w w' := by
  have hc1 := hid (cell_on hc (below_alloc (Below.refl w.heap.size w) (.cells #[.pointer (some ad)] 141)))
  have hB := hid (below_alloc (Below.refl w.heap.size w) (.cells #[.pointer (some ad)] 141))
  have hx : Hid ((w.alloc (.cells #[.pointer (some ad)] 141)).heap[w.heap.size]? = some (.cells #[.pointer (some ad)] 141 (0, 0))) := hid Array.getElem?_push_size
  obtain ⟨z0, hz0⟩ : ∃ z, z = w.heap.size := ⟨_, rfl⟩
  replace hz0 := hid hz0
  have hL := hid (fun W => Q.rights_Sub.calls n n r W hr)
  clear hr
  clear hc
  go_enter Try.func107, Try.ntmps107
  go_upto_region 1 with fail
  generalize w.alloc (.cells #[.pointer (some ad)] 141) = w1 at *
  have c0 : w1.cell? ad = some (.int .i64 n) := hc1.out
  have b0 : w1.cell? ⟨w.heap.size, 0, none⟩ = some (.pointer (some ad)) := (blk_cell hx.out 0).trans rfl
  clear hc1 hx
  refine start_ (n := 10) (S := fun w' => w'.cell? ad = some (.int .i64 n) ∧ w'.cell? ⟨w.heap.size, 0, none⟩ = some (.pointer (some ad))) (ds := [8]) #[false, false, false, false, false, false, false, false, false, false] (by kernel_rfl) rfl rfl ⟨c0, b0⟩ (fun hHeld => ?_)
  refine pure_ (i := 0) (N := some 3) (v := ?_) (a' := ?_) #[true, false, false, false, false, false, false, false, false, false] rfl rfl (by kernel_rfl) (fun _ _ _ h => h) (Or.inl ⟨by rfl, ?_⟩) ?_ ?_
  rotate_left
  · intro w'
    go_simp
    with_reducible rfl
  rotate_left
  · simp only [Act.put, List.setIfInBounds_toArray, List.set_cons_zero, List.set_cons_succ, i64_w, i32_w]
    rfl
  refine take_ (i := 1) (N := some 4) (v := ?_) (a' := ?_) #[true, true, false, false, false, false, false, false, false, false] rfl rfl (by kernel_rfl) (fun _ _ _ h => h) (Or.inl ⟨by rfl, ?_⟩) hHeld ?_ ?_
  rotate_left
  · rintro w' ⟨c0, b0⟩
    go_simp
    with_reducible rfl
  rotate_left
  · simp only [Act.put, List.setIfInBounds_toArray, List.set_cons_zero, List.set_cons_succ, i64_w, i32_w]
    rfl
  refine pure_ (i := 2) (N := some 5) (v := ?_) (a' := ?_) #[true, true, true, false, false, false, false, false, false, false] rfl rfl (by kernel_rfl) (fun _ _ _ h => h) (Or.inl ⟨by rfl, ?_⟩) ?_ ?_
  rotate_left
  · intro w'
    go_simp
    with_reducible rfl
  rotate_left
  · simp only [Act.put, List.setIfInBounds_toArray, List.set_cons_zero, List.set_cons_succ, i64_w, i32_w]
    rfl
  refine take_ (i := 3) (N := some 6) (v := ?_) (a' := ?_) #[true, true, true, true, false, false, false, false, false, false] rfl rfl (by kernel_rfl) (fun _ _ _ h => h) (Or.inl ⟨by rfl, ?_⟩) hHeld ?_ ?_
  rotate_left
  · rintro w' ⟨c0, b0⟩
    go_simp
    with_reducible rfl
  rotate_left
  · simp only [Act.put, List.setIfInBounds_toArray, List.set_cons_zero, List.set_cons_succ, i64_w, i32_w]
    rfl
  refine pure_ (i := 4) (N := some 7) (v := ?_) (a' := ?_) #[true, true, true, true, true, false, false, false, false, false] rfl rfl (by kernel_rfl) (fun _ _ _ h => h) (Or.inl ⟨by rfl, ?_⟩) ?_ ?_
  rotate_left
  · intro w'
    go_simp
    with_reducible rfl
  rotate_left
  · simp only [Act.put, List.setIfInBounds_toArray, List.set_cons_zero, List.set_cons_succ, i64_w, i32_w]
    rfl
  refine take_ (i := 5) (N := some 8) (v := ?_) (a' := ?_) #[true, true, true, true, true, true, false, false, false, false] rfl rfl (by kernel_rfl) (fun _ _ _ h => h) (Or.inl ⟨by rfl, ?_⟩) hHeld ?_ ?_
  rotate_left
  · rintro w' ⟨c0, b0⟩
    go_simp
    with_reducible rfl
  rotate_left
  · simp only [Act.put, List.setIfInBounds_toArray, List.set_cons_zero, List.set_cons_succ, i64_w, i32_w]
    rfl
  refine pure_ (i := 6) (N := some 9) (v := ?_) (a' := ?_) #[true, true, true, true, true, true, true, false, false, false] rfl rfl (by kernel_rfl) (fun _ _ _ h => h) (Or.inl ⟨by rfl, ?_⟩) ?_ ?_
  rotate_left
  · intro w'
    go_simp
    with_reducible rfl
  rotate_left
  · simp only [Act.put, List.setIfInBounds_toArray, List.set_cons_zero, List.set_cons_succ, i64_w, i32_w]
    rfl
  refine take_ (i := 7) (N := some 10) (v := ?_) (a' := ?_) #[true, true, true, true, true, true, true, true, false, false] rfl rfl (by kernel_rfl) (fun _ _ _ h => h) (Or.inl ⟨by rfl, ?_⟩) hHeld ?_ ?_
  rotate_left
  · rintro w' ⟨c0, b0⟩
    go_simp
    with_reducible rfl
  rotate_left
  · simp only [Act.put, List.setIfInBounds_toArray, List.set_cons_zero, List.set_cons_succ, i64_w, i32_w]
    rfl
  refine last_ (i := 8) (N := some 11) #[true, true, true, true, true, true, true, true, true, false] rfl rfl (by kernel_rfl) (by decide) (fun K hK => ?_)
  refine goes_ Try.func110 (by kernel_rfl) rfl #[.int .i64 n, .int .i64 n] (by rfl) rfl rfl (by (try simp only [List.map_toArray, List.map_cons, List.map_nil]); first | done | rfl) ?_
  refine (hL.out _).mono ?_
  rintro e w2 ⟨rfl, nd, rfl⟩
  refine ⟨_, rfl, ?_⟩
  refine hK.out _ _ ?_
  clear hK K
  refine norm_ (a' := ?_) ?_ ?_
  rotate_left
  · show Act.put _ (some 11) _ = _
    simp only [Act.put, List.setIfInBounds_toArray, List.set_cons_zero, List.set_cons_succ, i64_w, i32_w]
    rfl
  refine pure_ (i := 9) (N := some 2) (v := ?_) (a' := ?_) #[true, true, true, true, true, true, true, true, true, true] rfl rfl (by kernel_rfl) (fun _ _ _ h => h) (Or.inl ⟨by rfl, ?_⟩) ?_ ?_
  rotate_left
  · intro w'
    go_simp
    with_reducible rfl
  rotate_left
  · simp only [Act.put, List.setIfInBounds_toArray, List.set_cons_zero, List.set_cons_succ, i64_w, i32_w]
    rfl
  refine done_ (by kernel_rfl) ?_
  have hb := hid (pw_below_drewN (below_drew hB.out) nd)
  go_wp2_with fail
  go_ret
  exact ⟨by first | rfl | simp [*], by first | exact hB.out | exact below_then hB.out hB.out.size hb.out | exact hb.out⟩
set_option maxHeartbeats 1000000 in
set_option maxRecDepth 100000 in
theorem maskW (ad : Addr) (n : Int) (s : ByteArray) (ok : Bool) (t : ByteArray) (hr : Q.rights_Text.f 40 n = some (s, ok)) (ht : P.proto_text.f s = some t) (w : World) (hc : w.cell? ad = some (.int .i64 n)) :
    Calls Try.prog 108 #[.agg #[.pointer (some ad)]] w fun e w' => e = .returned (.string t) ∧ Below w.heap.size w w' := by
  have hc1 := hid (cell_on hc (below_alloc (Below.refl w.heap.size w) (.cells #[.pointer (some ad)] 141)))
  have hB := hid (below_alloc (Below.refl w.heap.size w) (.cells #[.pointer (some ad)] 141))
  have hx : Hid ((w.alloc (.cells #[.pointer (some ad)] 141)).heap[w.heap.size]? = some (.cells #[.pointer (some ad)] 141 (0, 0))) := hid Array.getElem?_push_size
  obtain ⟨z0, hz0⟩ : ∃ z, z = w.heap.size := ⟨_, rfl⟩
  replace hz0 := hid hz0
  have hM := hid (fun W => Q.rights_Text.calls 40 n s ok W hr)
  have hL := hid (fun W => P.proto_text.calls s t W ht)
  clear hr ht
  clear hc
  go_enter Try.func108, Try.ntmps108
  go_upto_region 1 with fail
  generalize w.alloc (.cells #[.pointer (some ad)] 141) = w1 at *
  have c0 : w1.cell? ad = some (.int .i64 n) := hc1.out
  have b0 : w1.cell? ⟨w.heap.size, 0, none⟩ = some (.pointer (some ad)) := (blk_cell hx.out 0).trans rfl
  clear hc1 hx
  go_wp2_with (first | ((with_reducible refine Calls.mono (hM.out _) ?_); rintro e w2 ⟨rfl, hb⟩; replace hb := hid hb) | ((with_reducible refine Calls.mono (hL.out _) ?_); rintro e w3 ⟨rfl, hb3⟩; replace hb := hid (below_then hb.out hb.out.size hb3)))
  go_ret
  exact ⟨by first | rfl | simp [*], by first | exact hB.out | exact below_then hB.out hB.out.size hb.out | exact hb.out⟩
set_option maxHeartbeats 1000000 in
set_option maxRecDepth 100000 in
theorem letterW (ad : Addr) (n : Int) (s t : ByteArray) (hs : ∀ W : World, (convert 21 9 (.int .i32 n)).run Try.prog W = .ok (.string s) W) (ht : P.proto_text.f s = some t) (w : World) (hc : w.cell? ad = some (.int .i32 n)) :
    Calls Try.prog 118 #[.agg #[.pointer (some ad)]] w fun e w' => e = .returned (.string t) ∧ Below w.heap.size w w' := by
  have hc1 := hid (cell_on hc (below_alloc (Below.refl w.heap.size w) (.cells #[.pointer (some ad)] 145)))
  have hB := hid (below_alloc (Below.refl w.heap.size w) (.cells #[.pointer (some ad)] 145))
  have hx : Hid ((w.alloc (.cells #[.pointer (some ad)] 145)).heap[w.heap.size]? = some (.cells #[.pointer (some ad)] 145 (0, 0))) := hid Array.getElem?_push_size
  obtain ⟨z0, hz0⟩ : ∃ z, z = w.heap.size := ⟨_, rfl⟩
  replace hz0 := hid hz0
  have hL := hid (fun W => P.proto_text.calls s t W ht)
  clear ht
  clear hc
  go_enter Try.func118, Try.ntmps118
  go_upto_region 1 with fail
  generalize w.alloc (.cells #[.pointer (some ad)] 145) = w1 at *
  have c0 : w1.cell? ad = some (.int .i32 n) := hc1.out
  have b0 : w1.cell? ⟨w.heap.size, 0, none⟩ = some (.pointer (some ad)) := (blk_cell hx.out 0).trans rfl
  clear hc1 hx
  go_wp2_with (first | ((with_reducible refine Calls.mono (hL.out _) ?_); rintro e w2 ⟨rfl, hb⟩; replace hb := hid hb))
  go_ret
  exact ⟨by first | rfl | simp [*], by first | exact hB.out | exact below_then hB.out hB.out.size hb.out | exact hb.out⟩
theorem two_ (A B : Prop) [Decidable A] [Decidable B] (r : Bool) (hr : r = (decide A && decide B)) : (¬ A ∧ (A = False) ∧ r = false) ∨ (A ∧ ¬ B ∧ (B = False) ∧ r = false) ∨ (A ∧ B ∧ r = true) := by by_cases a : A <;> by_cases b : B <;> simp [a, b, hr]
set_option maxHeartbeats 1000000 in
set_option maxRecDepth 100000 in
theorem numR (ad : Addr) (n z lo hi : Int) (r : Bool) (hr : r = (decide (lo ≤ n) && decide (n ≤ hi))) (w : World) (hc : w.cell? ad = some (.int .i64 n)) :
    Calls Try.prog 104 #[.agg #[.pointer (some ad), .int .i64 z, .int .i64 lo, .int .i64 hi]] w fun e w' => e = .returned (.bool r) ∧ Below w.heap.size w w' := by
  have hc1 := hid (cell_on hc (below_alloc (Below.refl w.heap.size w) (.cells #[.pointer (some ad), .int .i64 z, .int .i64 lo, .int .i64 hi] 139)))
  have hB := hid (below_alloc (Below.refl w.heap.size w) (.cells #[.pointer (some ad), .int .i64 z, .int .i64 lo, .int .i64 hi] 139))
  have hx : Hid ((w.alloc (.cells #[.pointer (some ad), .int .i64 z, .int .i64 lo, .int .i64 hi] 139)).heap[w.heap.size]? = some (.cells #[.pointer (some ad), .int .i64 z, .int .i64 lo, .int .i64 hi] 139 (0, 0))) := hid Array.getElem?_push_size
  obtain ⟨z0, hz0⟩ : ∃ z, z = w.heap.size := ⟨_, rfl⟩
  replace hz0 := hid hz0
  clear hc
  obtain ⟨h1, h1', rfl⟩ | ⟨h1, h2, h2', rfl⟩ | ⟨h1, h2, rfl⟩ := two_ (lo ≤ n) (n ≤ hi) r hr <;> clear hr
  all_goals
    go_enter Try.func104, Try.ntmps104
    go_upto_region 1 with fail
    generalize w.alloc (.cells #[.pointer (some ad), .int .i64 z, .int .i64 lo, .int .i64 hi] 139) = w1 at *
    have c0 : w1.cell? ad = some (.int .i64 n) := hc1.out
    have b0 : w1.cell? ⟨w.heap.size, 0, none⟩ = some (.pointer (some ad)) := (blk_cell hx.out 0).trans rfl
    have b1 : w1.cell? ⟨w.heap.size, 1, none⟩ = some (.int .i64 z) := (blk_cell hx.out 1).trans rfl
    have b2 : w1.cell? ⟨w.heap.size, 2, none⟩ = some (.int .i64 lo) := (blk_cell hx.out 2).trans rfl
    have b3 : w1.cell? ⟨w.heap.size, 3, none⟩ = some (.int .i64 hi) := (blk_cell hx.out 3).trans rfl
    clear hc1 hx
    go_wp2_with fail
    go_region
    go_wp2_with fail
    have hb := hid (below_drew hB.out)
    go_ret
    exact ⟨by first | rfl | simp [*], by first | exact hB.out | exact below_then hB.out hB.out.size hb.out | exact hb.out⟩
set_option maxHeartbeats 1000000 in
set_option maxRecDepth 100000 in
theorem letterR (ad : Addr) (n : Int) (r : Bool) (hr : r = (decide (97 ≤ n) && decide (n < 113))) (w : World) (hc : w.cell? ad = some (.int .i32 n)) :
    Calls Try.prog 117 #[.agg #[.pointer (some ad)]] w fun e w' => e = .returned (.bool r) ∧ Below w.heap.size w w' := by
  have hc1 := hid (cell_on hc (below_alloc (Below.refl w.heap.size w) (.cells #[.pointer (some ad)] 145)))
  have hB := hid (below_alloc (Below.refl w.heap.size w) (.cells #[.pointer (some ad)] 145))
  have hx : Hid ((w.alloc (.cells #[.pointer (some ad)] 145)).heap[w.heap.size]? = some (.cells #[.pointer (some ad)] 145 (0, 0))) := hid Array.getElem?_push_size
  obtain ⟨z0, hz0⟩ : ∃ z, z = w.heap.size := ⟨_, rfl⟩
  replace hz0 := hid hz0
  clear hc
  obtain ⟨h1, h1', rfl⟩ | ⟨h1, h2, h2', rfl⟩ | ⟨h1, h2, rfl⟩ := two_ (97 ≤ n) (n < 113) r hr <;> clear hr
  all_goals
    go_enter Try.func117, Try.ntmps117
    go_upto_region 1 with fail
    generalize w.alloc (.cells #[.pointer (some ad)] 145) = w1 at *
    have c0 : w1.cell? ad = some (.int .i32 n) := hc1.out
    have b0 : w1.cell? ⟨w.heap.size, 0, none⟩ = some (.pointer (some ad)) := (blk_cell hx.out 0).trans rfl
    clear hc1 hx
    go_wp2_with (fail)
    go_ret
    exact ⟨by first | rfl | simp [*], by first | exact hB.out | exact below_then hB.out hB.out.size hb.out | exact hb.out⟩
end Go.Proofs.Ytfbcidfbgebbhaa.C
