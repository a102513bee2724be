/-
  What this session proved by hand beside the print, for the seat of the chapter on records: TakeCap. (Printed by gentake.py.)
-/
import Derived.Test.YtapfidadgafpbaaA2
namespace Go.Proofs.Ytapfidadgafpbaa.G
set_option linter.unusedVariables false
set_option linter.unusedSimpArgs false
open Go.RowKit Go.Proofs.YtapfidadgafpbaaW.PrintWords Go.Proofs.YtapfidadgafpbaaW.PrintLast Go.Proofs.YtapfidadgafpbaaW.PrintMore
open Go.Lib (hid)
theorem IsRd.far {w : World} {g : Nat} {s : ByteArray} {bad : Bool} (h : IsRd w g s bad) (p : Addr) (u : Value) (hp : g ≠ p.block) : IsRd (w.setCell p u) g s bad := (Below.heap_setCell w p u g hp).trans h
theorem far_blk {w : World} {g : Nat} {o : Obj} (h : w.heap[g]? = some o) (p : Addr) (u : Value) (hp : g ≠ p.block) : (w.setCell p u).heap[g]? = some o := (Below.heap_setCell w p u g hp).trans h
theorem blk10 {W : World} {q : Nat} {t : TypeId} {a b c d e f g h i j : Value} (hb : W.heap[q]? = some (.cells #[a, b, c, d, e, f, g, h, i, j] t (0, 0))) (a' b' c' d' e' f' g' h' i' j' : Value) :
    ((((((((((W.setCell ⟨q, 0, none⟩ a').setCell ⟨q, 1, none⟩ b').setCell ⟨q, 2, none⟩ c').setCell ⟨q, 3, none⟩ d').setCell ⟨q, 4, none⟩ e').setCell ⟨q, 5, none⟩ f').setCell ⟨q, 6, none⟩ g').setCell ⟨q, 7, none⟩ h').setCell ⟨q, 8, none⟩ i').setCell ⟨q, 9, none⟩ j').heap[q]? = some (.cells #[a', b', c', d', e', f', g', h', i', j'] t (0, 0)) := by
  have k0 := blk_put (cs' := #[a', b, c, d, e, f, g, h, i, j]) hb 0 a' rfl
  have k1 := blk_put (cs' := #[a', b', c, d, e, f, g, h, i, j]) k0 1 b' rfl
  have k2 := blk_put (cs' := #[a', b', c', d, e, f, g, h, i, j]) k1 2 c' rfl
  have k3 := blk_put (cs' := #[a', b', c', d', e, f, g, h, i, j]) k2 3 d' rfl
  have k4 := blk_put (cs' := #[a', b', c', d', e', f, g, h, i, j]) k3 4 e' rfl
  have k5 := blk_put (cs' := #[a', b', c', d', e', f', g, h, i, j]) k4 5 f' rfl
  have k6 := blk_put (cs' := #[a', b', c', d', e', f', g', h, i, j]) k5 6 g' rfl
  have k7 := blk_put (cs' := #[a', b', c', d', e', f', g', h', i, j]) k6 7 h' rfl
  have k8 := blk_put (cs' := #[a', b', c', d', e', f', g', h', i', j]) k7 8 i' rfl
  have k9 := blk_put (cs' := #[a', b', c', d', e', f', g', h', i', j']) k8 9 j' rfl
  exact k9
theorem bel10 {B : Nat} {w W : World} {q : Nat} (hb : Below B w W) (hg : B ≤ q) (a' b' c' d' e' f' g' h' i' j' : Value) :
    Below B w ((((((((((W.setCell ⟨q, 0, none⟩ a').setCell ⟨q, 1, none⟩ b').setCell ⟨q, 2, none⟩ c').setCell ⟨q, 3, none⟩ d').setCell ⟨q, 4, none⟩ e').setCell ⟨q, 5, none⟩ f').setCell ⟨q, 6, none⟩ g').setCell ⟨q, 7, none⟩ h').setCell ⟨q, 8, none⟩ i').setCell ⟨q, 9, none⟩ j') :=
  ((((((((((hb.setCell hg a').setCell hg b').setCell hg c').setCell hg d').setCell hg e').setCell hg f').setCell hg g').setCell hg h').setCell hg i').setCell hg j')
set_option maxRecDepth 100000 in
set_option maxHeartbeats 8000000 in
theorem TakeCap.go (k : Nat) (id : Int) (s : ByteArray) (n1 n2 n3 n4 n5 n6 n7 n8 n9 e1 e2 e3 e4 e5 e6 e7 e8 e9 : Int) (t1 t2 t3 t4 t5 t6 t7 t8 t9 : ByteArray) (bad jj : Bool) (w : World)
    (h1 : P.num_Take.f k s 3 = some (n1, t1, e1))
    (h2 : P.num_Take.f k t1 3 = some (n2, t2, e2))
    (h3 : P.num_Take.f k t2 3 = some (n3, t3, e3))
    (h4 : P.num_Take.f k t3 2 = some (n4, t4, e4))
    (h5 : P.num_Take.f k t4 4 = some (n5, t5, e5))
    (h6 : P.num_Take.f k t5 1 = some (n6, t6, e6))
    (h7 : P.num_Take.f k t6 4 = some (n7, t7, e7))
    (h8 : P.num_Take.f k t7 3 = some (n8, t8, e8))
    (h9 : P.num_Take.f k t8 1 = some (n9, t9, e9))
    (hbad : (((((((((false || (e1 != 0)) || (e2 != 0)) || (e3 != 0)) || (e4 != 0)) || (e5 != 0)) || (e6 != 0)) || (e7 != 0)) || (e8 != 0)) || (e9 != 0)) = bad) (hjj : (wrap64 n9 == 1) = jj) (ag : Bool)
    (hag : bad = false → ∀ W, Calls Try.prog 39 #[.iface 75 (capV id (wrap64 n1) (wrap64 n2) (wrap64 n3) (wrap64 n4) (wrap64 n5) (wrap64 n6) (wrap64 n7) (wrap64 n8) jj), .string s] W fun e w' => e = .returned (.bool ag) ∧ Below W.heap.size W w')
    (x : Value) (m : Int) (hx : (bad = false → ag = true → x = capV id (wrap64 n1) (wrap64 n2) (wrap64 n3) (wrap64 n4) (wrap64 n5) (wrap64 n6) (wrap64 n7) (wrap64 n8) jj ∧ m = 0) ∧ (bad = false → ag = false → x = .agg #[.int .i64 0, .int .i64 0, .int .i64 0, .int .i64 0, .int .i64 0, .int .i64 0, .int .i64 0, .int .i64 0, .int .i64 0, .bool false] ∧ m = 2) ∧ (bad = true → x = .agg #[.int .i64 0, .int .i64 0, .int .i64 0, .int .i64 0, .int .i64 0, .int .i64 0, .int .i64 0, .int .i64 0, .int .i64 0, .bool false] ∧ m = 2)) :
    Calls Try.prog 21 #[.int .i64 id, .string s] w fun e w' => e = .returned (.tuple #[x, .int .i64 m]) ∧ Below w.heap.size w w' := by
  have H1 := hid (fun g W b hI => reader_small.calls k g s b 3 n1 t1 e1 W hI h1)
  have H2 := hid (fun g W b hI => reader_small.calls k g t1 b 3 n2 t2 e2 W hI h2)
  have H3 := hid (fun g W b hI => reader_small.calls k g t2 b 3 n3 t3 e3 W hI h3)
  have H4 := hid (fun g W b hI => reader_small.calls k g t3 b 2 n4 t4 e4 W hI h4)
  have H5 := hid (fun g W b hI => reader_small.calls k g t4 b 4 n5 t5 e5 W hI h5)
  have H6 := hid (fun g W b hI => reader_small.calls k g t5 b 1 n6 t6 e6 W hI h6)
  have H7 := hid (fun g W b hI => reader_small.calls k g t6 b 4 n7 t7 e7 W hI h7)
  have H8 := hid (fun g W b hI => reader_small.calls k g t7 b 3 n8 t8 e8 W hI h8)
  have H9 := hid (fun g W b hI => reader_small.calls k g t8 b 1 n9 t9 e9 W hI h9)
  clear h1 h2 h3 h4 h5 h6 h7 h8 h9
  generalize wrap64 n1 = m1 at *
  generalize wrap64 n2 = m2 at *
  generalize wrap64 n3 = m3 at *
  generalize wrap64 n4 = m4 at *
  generalize wrap64 n5 = m5 at *
  generalize wrap64 n6 = m6 at *
  generalize wrap64 n7 = m7 at *
  generalize wrap64 n8 = m8 at *
  generalize wrap64 n9 = m9 at *
  replace hag := hid hag
  replace hx := hid hx
  replace hbad := hid hbad
  go_enter Try.func21, Try.ntmps21
  go_wp2_with fail
  have hR1 : ((w.alloc (.cells #[.int .i64 0, .int .i64 0, .int .i64 0, .int .i64 0, .int .i64 0, .int .i64 0, .int .i64 0, .int .i64 0, .int .i64 0, .bool false] 23)).alloc (.cells #[.string s, .bool false] 82)).heap[w.heap.size]? = some (.cells #[.int .i64 0, .int .i64 0, .int .i64 0, .int .i64 0, .int .i64 0, .int .i64 0, .int .i64 0, .int .i64 0, .int .i64 0, .bool false] 23 (0, 0)) := by
    rw [Below.heap_alloc _ _ _ (by simp)]
    exact blk_new w _
  have hI1 : IsRd ((w.alloc (.cells #[.int .i64 0, .int .i64 0, .int .i64 0, .int .i64 0, .int .i64 0, .int .i64 0, .int .i64 0, .int .i64 0, .int .i64 0, .bool false] 23)).alloc (.cells #[.string s, .bool false] 82)) (w.heap.size + 1) s false := by
    have h := blk_new (w.alloc (.cells #[.int .i64 0, .int .i64 0, .int .i64 0, .int .i64 0, .int .i64 0, .int .i64 0, .int .i64 0, .int .i64 0, .int .i64 0, .bool false] 23)) (.cells #[.string s, .bool false] 82)
    unfold IsRd
    simpa using h
  have hB1 := below_alloc (below_alloc (Below.refl w.heap.size w) (.cells #[.int .i64 0, .int .i64 0, .int .i64 0, .int .i64 0, .int .i64 0, .int .i64 0, .int .i64 0, .int .i64 0, .int .i64 0, .bool false] 23)) (.cells #[.string s, .bool false] 82)
  refine (H1 _ _ _ hI1).mono ?_
  rintro e0 w2 ⟨rfl, hI2, hT1⟩
  have hR2 := (hT1.2 _ (blk_lt hR1) (by omega)).trans hR1
  have hB2 := hB1.trans (hT1.1.mono (by omega))
  go_wp2_with fail
  refine (H2 _ _ _ hI2).mono ?_
  rintro e0 w3 ⟨rfl, hI3, hT2⟩
  have hR3 := (hT2.2 _ (blk_lt hR2) (by omega)).trans hR2
  have hB3 := hB2.trans (hT2.1.mono (by omega))
  go_wp2_with fail
  refine (H3 _ _ _ hI3).mono ?_
  rintro e0 w4 ⟨rfl, hI4, hT3⟩
  have hR4 := (hT3.2 _ (blk_lt hR3) (by omega)).trans hR3
  have hB4 := hB3.trans (hT3.1.mono (by omega))
  have hlt := hI4.lt
  have hX5 : (w4.alloc (.cells #[.int .i64 id, .int .i64 m1, .int .i64 m2, .int .i64 m3, .int .i64 0, .int .i64 0, .int .i64 0, .int .i64 0, .int .i64 0, .bool false] 23)).heap[w4.heap.size]? = some (.cells #[.int .i64 id, .int .i64 m1, .int .i64 m2, .int .i64 m3, .int .i64 0, .int .i64 0, .int .i64 0, .int .i64 0, .int .i64 0, .bool false] 23 (0, 0)) := blk_new _ _
  have hI5 : IsRd (w4.alloc (.cells #[.int .i64 id, .int .i64 m1, .int .i64 m2, .int .i64 m3, .int .i64 0, .int .i64 0, .int .i64 0, .int .i64 0, .int .i64 0, .bool false] 23)) (w.heap.size + 1) t3 _ := (Below.heap_alloc w4 _ _ hlt).trans hI4
  have hR5 : (w4.alloc (.cells #[.int .i64 id, .int .i64 m1, .int .i64 m2, .int .i64 m3, .int .i64 0, .int .i64 0, .int .i64 0, .int .i64 0, .int .i64 0, .bool false] 23)).heap[w.heap.size]? = _ := (Below.heap_alloc w4 _ _ (by omega)).trans hR4
  have hB5 := below_alloc hB4 (.cells #[.int .i64 id, .int .i64 m1, .int .i64 m2, .int .i64 m3, .int .i64 0, .int .i64 0, .int .i64 0, .int .i64 0, .int .i64 0, .bool false] 23)
  clear hB1 hB2 hB3 hB4 hT1 hT2 hT3 hI1 hI2 hI3 hR1 hR2 hR3 hI4 hR4
  go_wp2_with fail
  refine (H4 _ _ _ hI5).mono ?_
  rintro e0 w6 ⟨rfl, hI6, hT5⟩
  have hR6 := (hT5.2 _ (blk_lt hR5) (by omega)).trans hR5
  have hX6 := (hT5.2 _ (blk_lt hX5) (by omega)).trans hX5
  have hB6 := hB5.trans (hT5.1.mono (by omega))
  clear hT5 hI5 hR5 hX5 hB5
  go_wp2_with fail
  refine (H5 _ _ _ hI6).mono ?_
  rintro e0 w7 ⟨rfl, hI7, hT6⟩
  have hR7 := (hT6.2 _ (blk_lt hR6) (by omega)).trans hR6
  have hX7 := (hT6.2 _ (blk_lt hX6) (by omega)).trans hX6
  have hB7 := hB6.trans (hT6.1.mono (by omega))
  clear hT6 hI6 hR6 hX6 hB6
  go_wp2_with fail
  refine (H6 _ _ _ hI7).mono ?_
  rintro e0 w8 ⟨rfl, hI8, hT7⟩
  have hR8 := (hT7.2 _ (blk_lt hR7) (by omega)).trans hR7
  have hX8 := (hT7.2 _ (blk_lt hX7) (by omega)).trans hX7
  have hB8 := hB7.trans (hT7.1.mono (by omega))
  clear hT7 hI7 hR7 hX7 hB7
  have kc8_4 : w8.cell? ⟨w4.heap.size, 4, none⟩ = some (.int .i64 0) := (blk_cell hX8 4).trans rfl
  have kf8_4 := blk_frozen hX8 4
  have kc8_5 : w8.cell? ⟨w4.heap.size, 5, none⟩ = some (.int .i64 0) := (blk_cell hX8 5).trans rfl
  have kf8_5 := blk_frozen hX8 5
  have kc8_6 : w8.cell? ⟨w4.heap.size, 6, none⟩ = some (.int .i64 0) := (blk_cell hX8 6).trans rfl
  have kf8_6 := blk_frozen hX8 6
  have hX9 : (((w8.setCell ⟨w4.heap.size, 4, none⟩ (.int .i64 m4)).setCell ⟨w4.heap.size, 5, none⟩ (.int .i64 m5)).setCell ⟨w4.heap.size, 6, none⟩ (.int .i64 m6)).heap[w4.heap.size]? = some (.cells #[.int .i64 id, .int .i64 m1, .int .i64 m2, .int .i64 m3, .int .i64 m4, .int .i64 m5, .int .i64 m6, .int .i64 0, .int .i64 0, .bool false] 23 (0, 0)) := (blk_put (blk_put (blk_put hX8 4 (.int .i64 m4) rfl) 5 (.int .i64 m5) rfl) 6 (.int .i64 m6) rfl)
  have hI9 := (((hI8.far ⟨w4.heap.size, 4, none⟩ (.int .i64 m4) (by show _ ≠ w4.heap.size; omega)).far ⟨w4.heap.size, 5, none⟩ (.int .i64 m5) (by show _ ≠ w4.heap.size; omega)).far ⟨w4.heap.size, 6, none⟩ (.int .i64 m6) (by show _ ≠ w4.heap.size; omega))
  have hR9 := (far_blk (far_blk (far_blk hR8 ⟨w4.heap.size, 4, none⟩ (.int .i64 m4) (by show _ ≠ w4.heap.size; omega)) ⟨w4.heap.size, 5, none⟩ (.int .i64 m5) (by show _ ≠ w4.heap.size; omega)) ⟨w4.heap.size, 6, none⟩ (.int .i64 m6) (by show _ ≠ w4.heap.size; omega))
  have hB9 := (((hB8.setCell (p := ⟨w4.heap.size, 4, none⟩) (by show w.heap.size ≤ w4.heap.size; omega) (.int .i64 m4)).setCell (p := ⟨w4.heap.size, 5, none⟩) (by show w.heap.size ≤ w4.heap.size; omega) (.int .i64 m5)).setCell (p := ⟨w4.heap.size, 6, none⟩) (by show w.heap.size ≤ w4.heap.size; omega) (.int .i64 m6))
  clear hX8 hI8 hR8 hB8
  go_wp2_with fail
  clear kc8_4 kf8_4 kc8_5 kf8_5 kc8_6 kf8_6
  refine (H7 _ _ _ hI9).mono ?_
  rintro e0 w10 ⟨rfl, hI10, hT9⟩
  have hR10 := (hT9.2 _ (blk_lt hR9) (by omega)).trans hR9
  have hX10 := (hT9.2 _ (blk_lt hX9) (by omega)).trans hX9
  have hB10 := hB9.trans (hT9.1.mono (by omega))
  clear hT9 hI9 hR9 hX9 hB9
  go_wp2_with fail
  refine (H8 _ _ _ hI10).mono ?_
  rintro e0 w11 ⟨rfl, hI11, hT10⟩
  have hR11 := (hT10.2 _ (blk_lt hR10) (by omega)).trans hR10
  have hX11 := (hT10.2 _ (blk_lt hX10) (by omega)).trans hX10
  have hB11 := hB10.trans (hT10.1.mono (by omega))
  clear hT10 hI10 hR10 hX10 hB10
  have kc11_7 : w11.cell? ⟨w4.heap.size, 7, none⟩ = some (.int .i64 0) := (blk_cell hX11 7).trans rfl
  have kf11_7 := blk_frozen hX11 7
  have kc11_8 : w11.cell? ⟨w4.heap.size, 8, none⟩ = some (.int .i64 0) := (blk_cell hX11 8).trans rfl
  have kf11_8 := blk_frozen hX11 8
  have hX12 : ((w11.setCell ⟨w4.heap.size, 7, none⟩ (.int .i64 m7)).setCell ⟨w4.heap.size, 8, none⟩ (.int .i64 m8)).heap[w4.heap.size]? = some (.cells #[.int .i64 id, .int .i64 m1, .int .i64 m2, .int .i64 m3, .int .i64 m4, .int .i64 m5, .int .i64 m6, .int .i64 m7, .int .i64 m8, .bool false] 23 (0, 0)) := (blk_put (blk_put hX11 7 (.int .i64 m7) rfl) 8 (.int .i64 m8) rfl)
  have hI12 := ((hI11.far ⟨w4.heap.size, 7, none⟩ (.int .i64 m7) (by show _ ≠ w4.heap.size; omega)).far ⟨w4.heap.size, 8, none⟩ (.int .i64 m8) (by show _ ≠ w4.heap.size; omega))
  have hR12 := (far_blk (far_blk hR11 ⟨w4.heap.size, 7, none⟩ (.int .i64 m7) (by show _ ≠ w4.heap.size; omega)) ⟨w4.heap.size, 8, none⟩ (.int .i64 m8) (by show _ ≠ w4.heap.size; omega))
  have hB12 := ((hB11.setCell (p := ⟨w4.heap.size, 7, none⟩) (by show w.heap.size ≤ w4.heap.size; omega) (.int .i64 m7)).setCell (p := ⟨w4.heap.size, 8, none⟩) (by show w.heap.size ≤ w4.heap.size; omega) (.int .i64 m8))
  clear hX11 hI11 hR11 hB11
  go_wp2_with fail
  clear kc11_7 kf11_7 kc11_8 kf11_8
  refine (H9 _ _ _ hI12).mono ?_
  rintro e0 w13 ⟨rfl, hI13, hT12⟩
  have hR13 := (hT12.2 _ (blk_lt hR12) (by omega)).trans hR12
  have hX13 := (hT12.2 _ (blk_lt hX12) (by omega)).trans hX12
  have hB13 := hB12.trans (hT12.1.mono (by omega))
  clear hT12 hI12 hR12 hX12 hB12
  have kc13_9 : w13.cell? ⟨w4.heap.size, 9, none⟩ = some (.bool false) := (blk_cell hX13 9).trans rfl
  have kf13_9 := blk_frozen hX13 9
  have hX14 : (w13.setCell ⟨w4.heap.size, 9, none⟩ (.bool jj)).heap[w4.heap.size]? = some (.cells #[.int .i64 id, .int .i64 m1, .int .i64 m2, .int .i64 m3, .int .i64 m4, .int .i64 m5, .int .i64 m6, .int .i64 m7, .int .i64 m8, .bool jj] 23 (0, 0)) := (blk_put hX13 9 (.bool jj) rfl)
  have hI14 := (hI13.far ⟨w4.heap.size, 9, none⟩ (.bool jj) (by show _ ≠ w4.heap.size; omega))
  have hR14 := (far_blk hR13 ⟨w4.heap.size, 9, none⟩ (.bool jj) (by show _ ≠ w4.heap.size; omega))
  have hB14 := (hB13.setCell (p := ⟨w4.heap.size, 9, none⟩) (by show w.heap.size ≤ w4.heap.size; omega) (.bool jj))
  rw [hbad] at hI14
  clear hX13 hI13 hR13 hB13
  have hlo := hB14.size
  have hc14 := hI14.c1
  have hf14 := hI14.f 1
  have xc0 : (w13.setCell ⟨w4.heap.size, 9, none⟩ (.bool jj)).cell? ⟨w4.heap.size, 0, none⟩ = some (.int .i64 id) := (blk_cell hX14 0).trans rfl
  have xc1 : (w13.setCell ⟨w4.heap.size, 9, none⟩ (.bool jj)).cell? ⟨w4.heap.size, 1, none⟩ = some (.int .i64 m1) := (blk_cell hX14 1).trans rfl
  have xc2 : (w13.setCell ⟨w4.heap.size, 9, none⟩ (.bool jj)).cell? ⟨w4.heap.size, 2, none⟩ = some (.int .i64 m2) := (blk_cell hX14 2).trans rfl
  have xc3 : (w13.setCell ⟨w4.heap.size, 9, none⟩ (.bool jj)).cell? ⟨w4.heap.size, 3, none⟩ = some (.int .i64 m3) := (blk_cell hX14 3).trans rfl
  have xc4 : (w13.setCell ⟨w4.heap.size, 9, none⟩ (.bool jj)).cell? ⟨w4.heap.size, 4, none⟩ = some (.int .i64 m4) := (blk_cell hX14 4).trans rfl
  have xc5 : (w13.setCell ⟨w4.heap.size, 9, none⟩ (.bool jj)).cell? ⟨w4.heap.size, 5, none⟩ = some (.int .i64 m5) := (blk_cell hX14 5).trans rfl
  have xc6 : (w13.setCell ⟨w4.heap.size, 9, none⟩ (.bool jj)).cell? ⟨w4.heap.size, 6, none⟩ = some (.int .i64 m6) := (blk_cell hX14 6).trans rfl
  have xc7 : (w13.setCell ⟨w4.heap.size, 9, none⟩ (.bool jj)).cell? ⟨w4.heap.size, 7, none⟩ = some (.int .i64 m7) := (blk_cell hX14 7).trans rfl
  have xc8 : (w13.setCell ⟨w4.heap.size, 9, none⟩ (.bool jj)).cell? ⟨w4.heap.size, 8, none⟩ = some (.int .i64 m8) := (blk_cell hX14 8).trans rfl
  have xc9 : (w13.setCell ⟨w4.heap.size, 9, none⟩ (.bool jj)).cell? ⟨w4.heap.size, 9, none⟩ = some (.bool jj) := (blk_cell hX14 9).trans rfl
  clear hI14
  cases bad
  · go_wp2_with fail
    refine (hag (by first | rfl | trivial) _).mono ?_
    rintro e0 w15 ⟨rfl, hB15⟩
    have hW15 := (hB15.block _ (blk_lt hR14)).trans hR14
    have hX15 := (hB15.block _ (blk_lt hX14)).trans hX14
    have hB16 := hB14.trans (hB15.mono (by omega))
    clear xc0 xc1 xc2 xc3 xc4 xc5 xc6 xc7 xc8 xc9 hc14 hf14
    have kr0 : w15.cell? ⟨w.heap.size, 0, none⟩ = some (.int .i64 0) := (blk_cell hW15 0).trans rfl
    have kg0 := blk_frozen hW15 0
    have kr1 : w15.cell? ⟨w.heap.size, 1, none⟩ = some (.int .i64 0) := (blk_cell hW15 1).trans rfl
    have kg1 := blk_frozen hW15 1
    have kr2 : w15.cell? ⟨w.heap.size, 2, none⟩ = some (.int .i64 0) := (blk_cell hW15 2).trans rfl
    have kg2 := blk_frozen hW15 2
    have kr3 : w15.cell? ⟨w.heap.size, 3, none⟩ = some (.int .i64 0) := (blk_cell hW15 3).trans rfl
    have kg3 := blk_frozen hW15 3
    have kr4 : w15.cell? ⟨w.heap.size, 4, none⟩ = some (.int .i64 0) := (blk_cell hW15 4).trans rfl
    have kg4 := blk_frozen hW15 4
    have kr5 : w15.cell? ⟨w.heap.size, 5, none⟩ = some (.int .i64 0) := (blk_cell hW15 5).trans rfl
    have kg5 := blk_frozen hW15 5
    have kr6 : w15.cell? ⟨w.heap.size, 6, none⟩ = some (.int .i64 0) := (blk_cell hW15 6).trans rfl
    have kg6 := blk_frozen hW15 6
    have kr7 : w15.cell? ⟨w.heap.size, 7, none⟩ = some (.int .i64 0) := (blk_cell hW15 7).trans rfl
    have kg7 := blk_frozen hW15 7
    have kr8 : w15.cell? ⟨w.heap.size, 8, none⟩ = some (.int .i64 0) := (blk_cell hW15 8).trans rfl
    have kg8 := blk_frozen hW15 8
    have kr9 : w15.cell? ⟨w.heap.size, 9, none⟩ = some (.bool false) := (blk_cell hW15 9).trans rfl
    have kg9 := blk_frozen hW15 9
    have xr0 : w15.cell? ⟨w4.heap.size, 0, none⟩ = some (.int .i64 id) := (blk_cell hX15 0).trans rfl
    have xr1 : w15.cell? ⟨w4.heap.size, 1, none⟩ = some (.int .i64 m1) := (blk_cell hX15 1).trans rfl
    have xr2 : w15.cell? ⟨w4.heap.size, 2, none⟩ = some (.int .i64 m2) := (blk_cell hX15 2).trans rfl
    have xr3 : w15.cell? ⟨w4.heap.size, 3, none⟩ = some (.int .i64 m3) := (blk_cell hX15 3).trans rfl
    have xr4 : w15.cell? ⟨w4.heap.size, 4, none⟩ = some (.int .i64 m4) := (blk_cell hX15 4).trans rfl
    have xr5 : w15.cell? ⟨w4.heap.size, 5, none⟩ = some (.int .i64 m5) := (blk_cell hX15 5).trans rfl
    have xr6 : w15.cell? ⟨w4.heap.size, 6, none⟩ = some (.int .i64 m6) := (blk_cell hX15 6).trans rfl
    have xr7 : w15.cell? ⟨w4.heap.size, 7, none⟩ = some (.int .i64 m7) := (blk_cell hX15 7).trans rfl
    have xr8 : w15.cell? ⟨w4.heap.size, 8, none⟩ = some (.int .i64 m8) := (blk_cell hX15 8).trans rfl
    have xr9 : w15.cell? ⟨w4.heap.size, 9, none⟩ = some (.bool jj) := (blk_cell hX15 9).trans rfl
    have hZ := hid (fun a b c d e f g h i j => blk10 hW15 a b c d e f g h i j)
    have hY := hid hB16
    clear hX15 hW15 hX14 hR14 hB14 hB15 hB16 hag hbad
    cases ag
    · go_wp2_with fail
      (try simp only [Exit.inBlock, Exit.then])
      refine bodyPost_ret (results_ct rfl _ _ w.heap.size 23 _ (0, 0) _ rfl (hZ _ _ _ _ _ _ _ _ _ _ ) Try.underlying23 rfl (by kernel_rfl)) rfl ?_
      obtain ⟨rfl, rfl⟩ := hx.out.2.1 (by first | rfl | trivial) (by first | rfl | trivial)
      exact ⟨rfl, bel10 hY (Nat.le_refl _) _ _ _ _ _ _ _ _ _ _ ⟩
    · go_wp2_with fail
      (try simp only [Exit.inBlock, Exit.then])
      refine bodyPost_ret (results_ct rfl _ _ w.heap.size 23 _ (0, 0) _ rfl (hZ _ _ _ _ _ _ _ _ _ _ ) Try.underlying23 rfl (by kernel_rfl)) rfl ?_
      obtain ⟨rfl, rfl⟩ := hx.out.1 (by first | rfl | trivial) (by first | rfl | trivial)
      exact ⟨rfl, bel10 hY (Nat.le_refl _) _ _ _ _ _ _ _ _ _ _ ⟩
  · clear xc0 xc1 xc2 xc3 xc4 xc5 xc6 xc7 xc8 xc9
    have kr0 : (w13.setCell ⟨w4.heap.size, 9, none⟩ (.bool jj)).cell? ⟨w.heap.size, 0, none⟩ = some (.int .i64 0) := (blk_cell hR14 0).trans rfl
    have kg0 := blk_frozen hR14 0
    have kr1 : (w13.setCell ⟨w4.heap.size, 9, none⟩ (.bool jj)).cell? ⟨w.heap.size, 1, none⟩ = some (.int .i64 0) := (blk_cell hR14 1).trans rfl
    have kg1 := blk_frozen hR14 1
    have kr2 : (w13.setCell ⟨w4.heap.size, 9, none⟩ (.bool jj)).cell? ⟨w.heap.size, 2, none⟩ = some (.int .i64 0) := (blk_cell hR14 2).trans rfl
    have kg2 := blk_frozen hR14 2
    have kr3 : (w13.setCell ⟨w4.heap.size, 9, none⟩ (.bool jj)).cell? ⟨w.heap.size, 3, none⟩ = some (.int .i64 0) := (blk_cell hR14 3).trans rfl
    have kg3 := blk_frozen hR14 3
    have kr4 : (w13.setCell ⟨w4.heap.size, 9, none⟩ (.bool jj)).cell? ⟨w.heap.size, 4, none⟩ = some (.int .i64 0) := (blk_cell hR14 4).trans rfl
    have kg4 := blk_frozen hR14 4
    have kr5 : (w13.setCell ⟨w4.heap.size, 9, none⟩ (.bool jj)).cell? ⟨w.heap.size, 5, none⟩ = some (.int .i64 0) := (blk_cell hR14 5).trans rfl
    have kg5 := blk_frozen hR14 5
    have kr6 : (w13.setCell ⟨w4.heap.size, 9, none⟩ (.bool jj)).cell? ⟨w.heap.size, 6, none⟩ = some (.int .i64 0) := (blk_cell hR14 6).trans rfl
    have kg6 := blk_frozen hR14 6
    have kr7 : (w13.setCell ⟨w4.heap.size, 9, none⟩ (.bool jj)).cell? ⟨w.heap.size, 7, none⟩ = some (.int .i64 0) := (blk_cell hR14 7).trans rfl
    have kg7 := blk_frozen hR14 7
    have kr8 : (w13.setCell ⟨w4.heap.size, 9, none⟩ (.bool jj)).cell? ⟨w.heap.size, 8, none⟩ = some (.int .i64 0) := (blk_cell hR14 8).trans rfl
    have kg8 := blk_frozen hR14 8
    have kr9 : (w13.setCell ⟨w4.heap.size, 9, none⟩ (.bool jj)).cell? ⟨w.heap.size, 9, none⟩ = some (.bool false) := (blk_cell hR14 9).trans rfl
    have kg9 := blk_frozen hR14 9
    have hZ := hid (fun a b c d e f g h i j => blk10 hR14 a b c d e f g h i j)
    have hY := hid hB14
    clear hX14 hR14 hB14 hag hbad
    go_wp2_with fail
    (try simp only [Exit.inBlock, Exit.then])
    refine bodyPost_ret (results_ct rfl _ _ w.heap.size 23 _ (0, 0) _ rfl (hZ _ _ _ _ _ _ _ _ _ _ ) Try.underlying23 rfl (by kernel_rfl)) rfl ?_
    obtain ⟨rfl, rfl⟩ := hx.out.2.2 (by first | rfl | trivial)
    exact ⟨rfl, bel10 hY (Nat.le_refl _) _ _ _ _ _ _ _ _ _ _ ⟩

/-- What is read of nine numbers. -/
def takeCap.g (k : Nat) (id : Int) (s : ByteArray) (n : Fin 9 → Int) (bad : Bool) : Option (Int × Int × Int × Int × Int × Int × Int × Int × Int × Bool × Int) :=
  if bad = false then (write_cap.f k id (wrap64 (n 0)) (wrap64 (n 1)) (wrap64 (n 2)) (wrap64 (n 3)) (wrap64 (n 4)) (wrap64 (n 5)) (wrap64 (n 6)) (wrap64 (n 7)) (wrap64 (n 8) == 1)).bind fun p => if p.2 = 0 ∧ p.1 = s then some (id, wrap64 (n 0), wrap64 (n 1), wrap64 (n 2), wrap64 (n 3), wrap64 (n 4), wrap64 (n 5), wrap64 (n 6), wrap64 (n 7), (wrap64 (n 8) == 1), 0) else some (0, 0, 0, 0, 0, 0, 0, 0, 0, false, 2)
  else some (0, 0, 0, 0, 0, 0, 0, 0, 0, false, 2)
def xTakeCap.f (id : Int) (s : ByteArray) : Option (Int × Int × Int × Int × Int × Int × Int × Int × Int × Bool × Int) :=
  (P.num_Take.f 40 s 3).bind fun q1 =>
  (P.num_Take.f 40 q1.2.1 3).bind fun q2 =>
  (P.num_Take.f 40 q2.2.1 3).bind fun q3 =>
  (P.num_Take.f 40 q3.2.1 2).bind fun q4 =>
  (P.num_Take.f 40 q4.2.1 4).bind fun q5 =>
  (P.num_Take.f 40 q5.2.1 1).bind fun q6 =>
  (P.num_Take.f 40 q6.2.1 4).bind fun q7 =>
  (P.num_Take.f 40 q7.2.1 3).bind fun q8 =>
  (P.num_Take.f 40 q8.2.1 1).bind fun q9 =>
  takeCap.g 40 id s (fun i => [q1.1, q2.1, q3.1, q4.1, q5.1, q6.1, q7.1, q8.1, q9.1].getD i.val 0) (((((((((false || (q1.2.2 != 0)) || (q2.2.2 != 0)) || (q3.2.2 != 0)) || (q4.2.2 != 0)) || (q5.2.2 != 0)) || (q6.2.2 != 0)) || (q7.2.2 != 0)) || (q8.2.2 != 0)) || (q9.2.2 != 0))
end Go.Proofs.Ytapfidadgafpbaa.G
