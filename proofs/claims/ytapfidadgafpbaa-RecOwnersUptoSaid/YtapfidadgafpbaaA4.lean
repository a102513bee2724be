/-
  What this session proved by hand beside the print, for the seat of the chapter on records: write at a principal, PutOwner, TakeOwner. (Printed by genown.py.)
-/
import Derived.Test.YtapfidadgafpbaaA3
import Derived.Test.YtapfidadgafpbaaOx2
namespace Go.Proofs.Ytapfidadgafpbaa.G
set_option linter.unusedVariables false
set_option linter.unusedSimpArgs false
open Go.RowKit Go.Proofs.YtapfidadgafpbaaW.PrintWords Go.Proofs.YtapfidadgafpbaaW.PrintLast Go.Proofs.YtapfidadgafpbaaW.PrintMore
open Go.Lib (hid)
abbrev ownV (i : Int) (nm : ByteArray) (l h : Int) : Value := .agg #[.int .i64 i, .string nm, .int .i64 l, .int .i64 h]
theorem as_own_cap (i : Int) (nm : ByteArray) (l h : Int) (W : World) : (Instr.typeAssert (.iface 73 (ownV i nm l h)) 100 75 true).run Try.prog W = .ok (.tuple #[capV 0 0 0 0 0 0 0 0 0 false, .bool false]) W := by kernel_rfl
theorem as_own_own (i : Int) (nm : ByteArray) (l h : Int) (W : World) : (Instr.typeAssert (.iface 73 (ownV i nm l h)) 100 73 true).run Try.prog W = .ok (.tuple #[ownV i nm l h, .bool true]) W := by kernel_rfl
theorem writeOwn.no (i : Int) (nm : ByteArray) (l h : Int) (w : World) (hr : O.rec_ownerRecord_right.f i nm l h = some false) :
    Calls Try.prog 32 #[.iface 73 (ownV i nm l h)] w fun e w' => e = .returned (.tuple #[.string ⟨#[]⟩, .int .i64 1]) ∧ Below w.heap.size w w' := by
  have HR := hid (fun W => O.rec_ownerRecord_right.calls i nm l h false W hr)
  clear hr
  go_enter Try.func32, Try.ntmps32
  go_wp2_with fail
  refine (HR _).mono ?_
  rintro e w1 ⟨rfl, hb⟩
  go_wp2_with fail
  go_ret2
  exact ⟨rfl, hb⟩
set_option maxRecDepth 100000 in
set_option maxHeartbeats 4000000 in
theorem writeOwn.yes (k : Nat) (i : Int) (nm : ByteArray) (l h : Int) (s1 s2 t : ByteArray) (m : Int) (w : World) (hr : O.rec_ownerRecord_right.f i nm l h = some true)
    (h1 : P.rec_writer_small.f k ⟨#[]⟩ l 2 = some s1) (h2 : P.rec_writer_small.f k s1 h 2 = some s2) (h3 : P.num_Text.f nm = some (t, m)) (hz : s2.size + t.size ≤ 9223372036854775807) :
    Calls Try.prog 32 #[.iface 73 (ownV i nm l h)] w fun e w' => e = .returned (.tuple #[.string (s2 ++ t), .int .i64 0]) ∧ Below w.heap.size w w' := by
  have HR := hid (fun W => O.rec_ownerRecord_right.calls i nm l h true W hr)
  have H1 := hid (fun g W hI hB => P.rec_writer_small.calls k g _ _ _ _ w W hI hB h1)
  have H2 := hid (fun g W hI hB => P.rec_writer_small.calls k g _ _ _ _ w W hI hB h2)
  have H3 := hid (fun W => P.num_Text.calls nm t m W h3)
  clear hr h1 h2 h3
  have ha1 := as_own_cap i nm l h
  have ha2 := as_own_own i nm l h
  have hz1 : decide (s2.size + t.size ≤ 9223372036854775807) = true := decide_eq_true hz
  have hz2 : ¬ (9223372036854775807 < s2.size + t.size) := by omega
  go_enter Try.func32, Try.ntmps32
  go_wp2_with fail
  refine (HR _).mono ?_
  rintro e w1 ⟨rfl, hb⟩
  go_wp2_with fail
  have hX1 : ((w1.alloc (.cells #[.string ⟨#[]⟩] 103)).alloc (.cells #[.int .i64 i, .string nm, .int .i64 l, .int .i64 h] 73)).heap[w1.heap.size + 1]? = some (.cells #[.int .i64 i, .string nm, .int .i64 l, .int .i64 h] 73 (0, 0)) := by
    have h := blk_new (w1.alloc (.cells #[.string ⟨#[]⟩] 103)) (.cells #[.int .i64 i, .string nm, .int .i64 l, .int .i64 h] 73)
    simpa using h
  refine (H1 _ _ ((P.IsS103.new w w1 _ hb).alloc _) (below_alloc (below_alloc hb _) _)).mono ?_
  rintro e0 w2 ⟨rfl, hI2, hB2, hK2⟩
  have hX2 := hK2.blk hX1 (by omega) (by simp)
  have cx2 : w2.cell? ⟨w1.heap.size + 1, 3, none⟩ = some (.int .i64 h) := (blk_cell hX2 3).trans rfl
  have fx2 := blk_frozen hX2 3
  go_wp2_with fail
  refine (H2 _ _ hI2 hB2).mono ?_
  rintro e0 w3 ⟨rfl, hI3, hB3, hK3⟩
  have hX3 := hK3.blk hX2 (by omega) (by simp)
  have cx3 : w3.cell? ⟨w1.heap.size + 1, 1, none⟩ = some (.string nm) := (blk_cell hX3 1).trans rfl
  have fx3 := blk_frozen hX3 1
  go_wp2_with fail
  refine (H3 _).mono ?_
  rintro e0 w4 ⟨rfl, hB4⟩
  have hI4 := hI3.below hB4
  have hB5 := hid (hB3.trans (hB4.mono hB3.size))
  have hc4 : w4.cell? ⟨w1.heap.size, 0, none⟩ = some (.string s2) := (blk_cell hI4.1 0).trans rfl
  have hf4 := blk_frozen hI4.1 0
  have hbs := hid hb.size
  clear hB4 hB3 hB2
  go_wp2_with fail
  go_ret2
  exact ⟨rfl, hB5.out.setCell (p := ⟨w1.heap.size, 0, none⟩) hbs.out _⟩
def write_own.f (k : Nat) (i : Int) (nm : ByteArray) (l h : Int) : Option (ByteArray × Int) := (O.rec_ownerRecord_right.f i nm l h).bind fun t => if t = true then (P.rec_writer_small.f k ⟨#[]⟩ l 2).bind fun s1 => (P.rec_writer_small.f k s1 h 2).bind fun s2 => (P.num_Text.f nm).bind fun q => if s2.size + q.1.size ≤ 9223372036854775807 then some (s2 ++ q.1, 0) else none else some (⟨#[]⟩, 1)
theorem write_own.calls (k : Nat) (i : Int) (nm : ByteArray) (l h : Int) (r : ByteArray) (m : Int) (w : World) (hh : write_own.f k i nm l h = some (r, m)) :
    Calls Try.prog 32 #[.iface 73 (ownV i nm l h)] w fun e w' => e = .returned (.tuple #[.string r, .int .i64 m]) ∧ Below w.heap.size w w' := by
  obtain ⟨t, ht, hh⟩ := Option.bind_eq_some_iff.1 hh
  cases t
  · cases hh
    exact writeOwn.no i nm l h w ht
  · rw [if_pos rfl] at hh
    obtain ⟨s1, h1, hh⟩ := Option.bind_eq_some_iff.1 hh
    obtain ⟨s2, h2, hh⟩ := Option.bind_eq_some_iff.1 hh
    obtain ⟨⟨q, n⟩, h3, hh⟩ := Option.bind_eq_some_iff.1 hh
    by_cases hz : s2.size + q.size ≤ 9223372036854775807
    · simp only [hz, if_true] at hh
      cases hh
      exact writeOwn.yes k i nm l h s1 s2 q n w ht h1 h2 h3 hz
    · simp only [hz, if_false] at hh
      cases hh
theorem PutOwner.go (i : Int) (nm : ByteArray) (l h : Int) (r : ByteArray) (m : Int) (w : World) (hh : ∀ W, Calls Try.prog 32 #[.iface 73 (ownV i nm l h)] W fun e w' => e = .returned (.tuple #[.string r, .int .i64 m]) ∧ Below W.heap.size W w') :
    Calls Try.prog 11 #[ownV i nm l h] w fun e w' => e = .returned (.tuple #[.string r, .int .i64 m]) ∧ Below w.heap.size w w' := by
  have H := hid hh
  clear hh
  go_enter Try.func11, Try.ntmps11
  go_wp2_with fail
  refine (H _).mono ?_
  rintro e w1 ⟨rfl, hb⟩
  go_wp2_with fail
  go_ret2
  exact ⟨rfl, next (below_alloc (Below.refl _ _) _) hb⟩
def xPutOwner.f (i : Int) (nm : ByteArray) (l h : Int) : Option (ByteArray × Int) := write_own.f 40 i nm l h
theorem xPutOwner.calls (i : Int) (nm : ByteArray) (l h : Int) (r : ByteArray) (m : Int) (w : World) (hh : xPutOwner.f i nm l h = some (r, m)) :
    Calls Try.prog 11 #[ownV i nm l h] w fun e w' => e = .returned (.tuple #[.string r, .int .i64 m]) ∧ Below w.heap.size w w' :=
  PutOwner.go i nm l h r m w fun W => write_own.calls 40 i nm l h r m W hh

set_option maxRecDepth 100000 in
set_option maxHeartbeats 8000000 in
theorem TakeOwner.go (k : Nat) (id : Int) (s : ByteArray) (n1 n2 e1 e2 e3 : Int) (t1 t2 nm rest : ByteArray) (bad bad2 : Bool) (w : World)
    (h1 : P.num_Take.f k s 2 = some (n1, t1, e1)) (h2 : P.num_Take.f k t1 2 = some (n2, t2, e2)) (h3 : P.num_TakeText.f t2 = some (nm, rest, e3))
    (hbad : ((false || (e1 != 0)) || (e2 != 0)) = bad) (hbad2 : (e3 != 0) = bad2) (ag : Bool)
    (hag : bad = false → bad2 = false → ∀ W, Calls Try.prog 39 #[.iface 73 (ownV id nm (wrap64 n1) (wrap64 n2)), .string s] W fun e w' => e = .returned (.bool ag) ∧ Below W.heap.size W w')
    (x : Value) (m : Int) (hx : (bad = false → bad2 = false → ag = true → x = ownV id nm (wrap64 n1) (wrap64 n2) ∧ m = 0) ∧ (bad = false → bad2 = false → ag = false → x = .agg #[.int .i64 0, .string ⟨#[]⟩, .int .i64 0, .int .i64 0] ∧ m = 2) ∧ (bad = false → bad2 = true → x = .agg #[.int .i64 0, .string ⟨#[]⟩, .int .i64 0, .int .i64 0] ∧ m = 2) ∧ (bad = true → x = .agg #[.int .i64 0, .string ⟨#[]⟩, .int .i64 0, .int .i64 0] ∧ m = 2)) :
    Calls Try.prog 25 #[.int .i64 id, .string s] w fun e w' => e = .returned (.tuple #[x, .int .i64 m]) ∧ Below w.heap.size w w' := by
  have H1 := hid (fun g W b hI => reader_small.calls k g s b 2 n1 t1 e1 W hI h1)
  have H2 := hid (fun g W b hI => reader_small.calls k g t1 b 2 n2 t2 e2 W hI h2)
  have H3 := hid (fun W => P.num_TakeText.calls t2 nm rest e3 W h3)
  clear h1 h2 h3
  generalize wrap64 n1 = m1 at *
  generalize wrap64 n2 = m2 at *
  replace hag := hid hag
  replace hx := hid hx
  replace hbad := hid hbad
  go_enter Try.func25, Try.ntmps25
  go_wp2_with fail
  have hR1 : ((w.alloc (.cells #[.int .i64 0, .string ⟨#[]⟩, .int .i64 0, .int .i64 0] 34)).alloc (.cells #[.string s, .bool false] 82)).heap[w.heap.size]? = some (.cells #[.int .i64 0, .string ⟨#[]⟩, .int .i64 0, .int .i64 0] 34 (0, 0)) := by
    rw [Below.heap_alloc _ _ _ (by simp)]
    exact blk_new w _
  have hI1 : IsRd ((w.alloc (.cells #[.int .i64 0, .string ⟨#[]⟩, .int .i64 0, .int .i64 0] 34)).alloc (.cells #[.string s, .bool false] 82)) (w.heap.size + 1) s false := by
    have h := blk_new (w.alloc (.cells #[.int .i64 0, .string ⟨#[]⟩, .int .i64 0, .int .i64 0] 34)) (.cells #[.string s, .bool false] 82)
    unfold IsRd
    simpa using h
  have hB1 := below_alloc (below_alloc (Below.refl w.heap.size w) (.cells #[.int .i64 0, .string ⟨#[]⟩, .int .i64 0, .int .i64 0] 34)) (.cells #[.string s, .bool false] 82)
  refine (H1 _ _ _ hI1).mono ?_
  rintro e0 w2 ⟨rfl, hI2, hT1⟩
  have hR2 := (hT1.2 _ (blk_lt hR1) (by omega)).trans hR1
  have hB2 := hB1.trans (hT1.1.mono (by omega))
  go_wp2_with fail
  refine (H2 _ _ _ hI2).mono ?_
  rintro e0 w3 ⟨rfl, hI3, hT2⟩
  have hR3 := (hT2.2 _ (blk_lt hR2) (by omega)).trans hR2
  have hB3 := hB2.trans (hT2.1.mono (by omega))
  rw [hbad] at hI3
  have hlt := hI3.lt
  have hX4 : (w3.alloc (.cells #[.int .i64 id, .string ⟨#[]⟩, .int .i64 m1, .int .i64 m2] 34)).heap[w3.heap.size]? = some (.cells #[.int .i64 id, .string ⟨#[]⟩, .int .i64 m1, .int .i64 m2] 34 (0, 0)) := blk_new _ _
  have hI4 : IsRd (w3.alloc (.cells #[.int .i64 id, .string ⟨#[]⟩, .int .i64 m1, .int .i64 m2] 34)) (w.heap.size + 1) t2 bad := (Below.heap_alloc w3 _ _ hlt).trans hI3
  have hR4 : (w3.alloc (.cells #[.int .i64 id, .string ⟨#[]⟩, .int .i64 m1, .int .i64 m2] 34)).heap[w.heap.size]? = _ := (Below.heap_alloc w3 _ _ (by omega)).trans hR3
  have hB4 := below_alloc hB3 (.cells #[.int .i64 id, .string ⟨#[]⟩, .int .i64 m1, .int .i64 m2] 34)
  have hc4 := hI4.c0
  have hf4 := hI4.f 0
  clear hB1 hB2 hB3 hT1 hT2 hI1 hI2 hI3 hR1 hR2 hR3
  go_wp2_with fail
  refine (H3 _).mono ?_
  rintro e0 w5 ⟨rfl, ⟨nd, rfl⟩⟩
  have kc : ((w3.alloc (.cells #[.int .i64 id, .string ⟨#[]⟩, .int .i64 m1, .int .i64 m2] 34)).drewN nd).cell? ⟨w3.heap.size, 1, none⟩ = some (.string ⟨#[]⟩) := (blk_cell hX4 1).trans rfl
  have kf : ((w3.alloc (.cells #[.int .i64 id, .string ⟨#[]⟩, .int .i64 m1, .int .i64 m2] 34)).drewN nd).frozen? ⟨w3.heap.size, 1, none⟩ = false := blk_frozen hX4 1
  have hX5 : (((w3.alloc (.cells #[.int .i64 id, .string ⟨#[]⟩, .int .i64 m1, .int .i64 m2] 34)).drewN nd).setCell ⟨w3.heap.size, 1, none⟩ (.string nm)).heap[w3.heap.size]? = some (.cells #[.int .i64 id, .string nm, .int .i64 m1, .int .i64 m2] 34 (0, 0)) := blk_put (w := (w3.alloc (.cells #[.int .i64 id, .string ⟨#[]⟩, .int .i64 m1, .int .i64 m2] 34)).drewN nd) hX4 1 (.string nm) rfl
  have hI5 : IsRd (((w3.alloc (.cells #[.int .i64 id, .string ⟨#[]⟩, .int .i64 m1, .int .i64 m2] 34)).drewN nd).setCell ⟨w3.heap.size, 1, none⟩ (.string nm)) (w.heap.size + 1) t2 bad := IsRd.far (w := (w3.alloc (.cells #[.int .i64 id, .string ⟨#[]⟩, .int .i64 m1, .int .i64 m2] 34)).drewN nd) hI4 ⟨w3.heap.size, 1, none⟩ (.string nm) (by show _ ≠ w3.heap.size; omega)
  have hR5 : (((w3.alloc (.cells #[.int .i64 id, .string ⟨#[]⟩, .int .i64 m1, .int .i64 m2] 34)).drewN nd).setCell ⟨w3.heap.size, 1, none⟩ (.string nm)).heap[w.heap.size]? = _ := far_blk (w := (w3.alloc (.cells #[.int .i64 id, .string ⟨#[]⟩, .int .i64 m1, .int .i64 m2] 34)).drewN nd) hR4 ⟨w3.heap.size, 1, none⟩ (.string nm) (by show _ ≠ w3.heap.size; omega)
  have hB5 : Below w.heap.size w (((w3.alloc (.cells #[.int .i64 id, .string ⟨#[]⟩, .int .i64 m1, .int .i64 m2] 34)).drewN nd).setCell ⟨w3.heap.size, 1, none⟩ (.string nm)) := (hB4.trans (Joins.below_draws _ _ nd)).setCell (p := ⟨w3.heap.size, 1, none⟩) (by show w.heap.size ≤ w3.heap.size; omega) _
  have c5 := hI5.c1
  have f5 := hI5.f 1
  have xc0 : (((w3.alloc (.cells #[.int .i64 id, .string ⟨#[]⟩, .int .i64 m1, .int .i64 m2] 34)).drewN nd).setCell ⟨w3.heap.size, 1, none⟩ (.string nm)).cell? ⟨w3.heap.size, 0, none⟩ = some (.int .i64 id) := (blk_cell hX5 0).trans rfl
  have xc1 : (((w3.alloc (.cells #[.int .i64 id, .string ⟨#[]⟩, .int .i64 m1, .int .i64 m2] 34)).drewN nd).setCell ⟨w3.heap.size, 1, none⟩ (.string nm)).cell? ⟨w3.heap.size, 1, none⟩ = some (.string nm) := (blk_cell hX5 1).trans rfl
  have xc2 : (((w3.alloc (.cells #[.int .i64 id, .string ⟨#[]⟩, .int .i64 m1, .int .i64 m2] 34)).drewN nd).setCell ⟨w3.heap.size, 1, none⟩ (.string nm)).cell? ⟨w3.heap.size, 2, none⟩ = some (.int .i64 m1) := (blk_cell hX5 2).trans rfl
  have xc3 : (((w3.alloc (.cells #[.int .i64 id, .string ⟨#[]⟩, .int .i64 m1, .int .i64 m2] 34)).drewN nd).setCell ⟨w3.heap.size, 1, none⟩ (.string nm)).cell? ⟨w3.heap.size, 3, none⟩ = some (.int .i64 m2) := (blk_cell hX5 3).trans rfl
  have hlo := hB5.size
  clear hI5 hI4 hX4 hR4 hB4
  cases bad
  · cases bad2
    · go_wp2_with fail
      refine (hag (by first | rfl | trivial) (by first | rfl | trivial) _).mono ?_
      rintro e0 w6 ⟨rfl, hB6⟩
      have hW6 := (hB6.block _ (blk_lt hR5)).trans hR5
      have hX6 := (hB6.block _ (blk_lt hX5)).trans hX5
      have hB7 := hB5.trans (hB6.mono (by omega))
      clear xc0 xc1 xc2 xc3 c5 f5 kc kf hc4 hf4
      have kr0 : w6.cell? ⟨w.heap.size, 0, none⟩ = some (.int .i64 0) := (blk_cell hW6 0).trans rfl
      have kg0 := blk_frozen hW6 0
      have kr1 : w6.cell? ⟨w.heap.size, 1, none⟩ = some (.string ⟨#[]⟩) := (blk_cell hW6 1).trans rfl
      have kg1 := blk_frozen hW6 1
      have kr2 : w6.cell? ⟨w.heap.size, 2, none⟩ = some (.int .i64 0) := (blk_cell hW6 2).trans rfl
      have kg2 := blk_frozen hW6 2
      have kr3 : w6.cell? ⟨w.heap.size, 3, none⟩ = some (.int .i64 0) := (blk_cell hW6 3).trans rfl
      have kg3 := blk_frozen hW6 3
      have xr0 : w6.cell? ⟨w3.heap.size, 0, none⟩ = some (.int .i64 id) := (blk_cell hX6 0).trans rfl
      have xr1 : w6.cell? ⟨w3.heap.size, 1, none⟩ = some (.string nm) := (blk_cell hX6 1).trans rfl
      have xr2 : w6.cell? ⟨w3.heap.size, 2, none⟩ = some (.int .i64 m1) := (blk_cell hX6 2).trans rfl
      have xr3 : w6.cell? ⟨w3.heap.size, 3, none⟩ = some (.int .i64 m2) := (blk_cell hX6 3).trans rfl
      have hZ := hid (fun a b c d => blk4 hW6 a b c d)
      have hY := hid hB7
      clear hX6 hW6 hX5 hR5 hB5 hB6 hB7 hag hbad
      cases ag
      · go_wp2_with fail
        (try simp only [Exit.inBlock, Exit.then])
        refine bodyPost_ret (results_ct rfl _ _ w.heap.size 34 _ (0, 0) _ rfl (hZ _ _ _ _) Try.underlying34 rfl (by kernel_rfl)) rfl ?_
        obtain ⟨rfl, rfl⟩ := hx.out.2.1 (by first | rfl | trivial) (by first | rfl | trivial) (by first | rfl | trivial)
        exact ⟨rfl, bel4 hY (Nat.le_refl _) _ _ _ _⟩
      · go_wp2_with fail
        (try simp only [Exit.inBlock, Exit.then])
        refine bodyPost_ret (results_ct rfl _ _ w.heap.size 34 _ (0, 0) _ rfl (hZ _ _ _ _) Try.underlying34 rfl (by kernel_rfl)) rfl ?_
        obtain ⟨rfl, rfl⟩ := hx.out.1 (by first | rfl | trivial) (by first | rfl | trivial) (by first | rfl | trivial)
        exact ⟨rfl, bel4 hY (Nat.le_refl _) _ _ _ _⟩
    · clear xc0 xc1 xc2 xc3
      have kr0 : (((w3.alloc (.cells #[.int .i64 id, .string ⟨#[]⟩, .int .i64 m1, .int .i64 m2] 34)).drewN nd).setCell ⟨w3.heap.size, 1, none⟩ (.string nm)).cell? ⟨w.heap.size, 0, none⟩ = some (.int .i64 0) := (blk_cell hR5 0).trans rfl
      have kg0 := blk_frozen hR5 0
      have kr1 : (((w3.alloc (.cells #[.int .i64 id, .string ⟨#[]⟩, .int .i64 m1, .int .i64 m2] 34)).drewN nd).setCell ⟨w3.heap.size, 1, none⟩ (.string nm)).cell? ⟨w.heap.size, 1, none⟩ = some (.string ⟨#[]⟩) := (blk_cell hR5 1).trans rfl
      have kg1 := blk_frozen hR5 1
      have kr2 : (((w3.alloc (.cells #[.int .i64 id, .string ⟨#[]⟩, .int .i64 m1, .int .i64 m2] 34)).drewN nd).setCell ⟨w3.heap.size, 1, none⟩ (.string nm)).cell? ⟨w.heap.size, 2, none⟩ = some (.int .i64 0) := (blk_cell hR5 2).trans rfl
      have kg2 := blk_frozen hR5 2
      have kr3 : (((w3.alloc (.cells #[.int .i64 id, .string ⟨#[]⟩, .int .i64 m1, .int .i64 m2] 34)).drewN nd).setCell ⟨w3.heap.size, 1, none⟩ (.string nm)).cell? ⟨w.heap.size, 3, none⟩ = some (.int .i64 0) := (blk_cell hR5 3).trans rfl
      have kg3 := blk_frozen hR5 3
      have hZ := hid (fun a b c d => blk4 hR5 a b c d)
      have hY := hid hB5
      clear hX5 hR5 hB5 hag hbad
      go_wp2_with fail
      (try simp only [Exit.inBlock, Exit.then])
      refine bodyPost_ret (results_ct rfl _ _ w.heap.size 34 _ (0, 0) _ rfl (hZ _ _ _ _) Try.underlying34 rfl (by kernel_rfl)) rfl ?_
      obtain ⟨rfl, rfl⟩ := hx.out.2.2.1 (by first | rfl | trivial) (by first | rfl | trivial)
      exact ⟨rfl, bel4 hY (Nat.le_refl _) _ _ _ _⟩
  · clear xc0 xc1 xc2 xc3
    have kr0 : (((w3.alloc (.cells #[.int .i64 id, .string ⟨#[]⟩, .int .i64 m1, .int .i64 m2] 34)).drewN nd).setCell ⟨w3.heap.size, 1, none⟩ (.string nm)).cell? ⟨w.heap.size, 0, none⟩ = some (.int .i64 0) := (blk_cell hR5 0).trans rfl
    have kg0 := blk_frozen hR5 0
    have kr1 : (((w3.alloc (.cells #[.int .i64 id, .string ⟨#[]⟩, .int .i64 m1, .int .i64 m2] 34)).drewN nd).setCell ⟨w3.heap.size, 1, none⟩ (.string nm)).cell? ⟨w.heap.size, 1, none⟩ = some (.string ⟨#[]⟩) := (blk_cell hR5 1).trans rfl
    have kg1 := blk_frozen hR5 1
    have kr2 : (((w3.alloc (.cells #[.int .i64 id, .string ⟨#[]⟩, .int .i64 m1, .int .i64 m2] 34)).drewN nd).setCell ⟨w3.heap.size, 1, none⟩ (.string nm)).cell? ⟨w.heap.size, 2, none⟩ = some (.int .i64 0) := (blk_cell hR5 2).trans rfl
    have kg2 := blk_frozen hR5 2
    have kr3 : (((w3.alloc (.cells #[.int .i64 id, .string ⟨#[]⟩, .int .i64 m1, .int .i64 m2] 34)).drewN nd).setCell ⟨w3.heap.size, 1, none⟩ (.string nm)).cell? ⟨w.heap.size, 3, none⟩ = some (.int .i64 0) := (blk_cell hR5 3).trans rfl
    have kg3 := blk_frozen hR5 3
    have hZ := hid (fun a b c d => blk4 hR5 a b c d)
    have hY := hid hB5
    clear hX5 hR5 hB5 hag hbad
    go_wp2_with fail
    (try simp only [Exit.inBlock, Exit.then])
    refine bodyPost_ret (results_ct rfl _ _ w.heap.size 34 _ (0, 0) _ rfl (hZ _ _ _ _) Try.underlying34 rfl (by kernel_rfl)) rfl ?_
    obtain ⟨rfl, rfl⟩ := hx.out.2.2.2 (by first | rfl | trivial)
    exact ⟨rfl, bel4 hY (Nat.le_refl _) _ _ _ _⟩

def xTakeOwner.f (id : Int) (s : ByteArray) : Option (Int × ByteArray × Int × Int × Int) :=
  (P.num_Take.f 40 s 2).bind fun a => (P.num_Take.f 40 a.2.1 2).bind fun b => (P.num_TakeText.f b.2.1).bind fun c =>
    if ((false || (a.2.2 != 0)) || (b.2.2 != 0)) = false ∧ (c.2.2 != 0) = false then
      (write_own.f 40 id c.1 (wrap64 a.1) (wrap64 b.1)).bind fun p => if p.2 = 0 ∧ p.1 = s then some (id, c.1, wrap64 a.1, wrap64 b.1, 0) else some (0, ⟨#[]⟩, 0, 0, 2)
    else some (0, ⟨#[]⟩, 0, 0, 2)
theorem xTakeOwner.calls (id : Int) (s : ByteArray) (r1 : Int) (r2 : ByteArray) (r3 r4 r5 : Int) (w : World) (h : xTakeOwner.f id s = some (r1, r2, r3, r4, r5)) :
    Calls Try.prog 25 #[.int .i64 id, .string s] w fun e w' => e = .returned (.tuple #[ownV r1 r2 r3 r4, .int .i64 r5]) ∧ Below w.heap.size w w' := by
  obtain ⟨⟨n1, t1, e1⟩, h1, ha⟩ := Option.bind_eq_some_iff.1 h
  obtain ⟨⟨n2, t2, e2⟩, h2, hb0⟩ := Option.bind_eq_some_iff.1 ha
  obtain ⟨⟨nm, rest, e3⟩, h3, hc⟩ := Option.bind_eq_some_iff.1 hb0
  clear ha hb0 h
  obtain ⟨bad, hbad⟩ : ∃ b, ((false || (e1 != 0)) || (e2 != 0)) = b := ⟨_, rfl⟩
  obtain ⟨bad2, hbad2⟩ : ∃ b, (e3 != 0) = b := ⟨_, rfl⟩
  have hh : (if bad = false ∧ bad2 = false then (write_own.f 40 id nm (wrap64 n1) (wrap64 n2)).bind fun p => if p.2 = 0 ∧ p.1 = s then some (id, nm, wrap64 n1, wrap64 n2, (0 : Int)) else some (0, ⟨#[]⟩, 0, 0, 2) else some (0, ⟨#[]⟩, 0, 0, 2)) = some (r1, r2, r3, r4, r5) := by rw [← hbad, ← hbad2]; exact hc
  clear hc
  by_cases hb : bad = false ∧ bad2 = false
  · rw [if_pos hb] at hh
    obtain ⟨p, hq, hd⟩ := Option.bind_eq_some_iff.1 hh
    clear hh
    obtain ⟨q, m⟩ := p
    have he : (if m = 0 ∧ q = s then some (id, nm, wrap64 n1, wrap64 n2, (0 : Int)) else some (0, ⟨#[]⟩, 0, 0, 2)) = some (r1, r2, r3, r4, r5) := hd
    clear hd
    refine TakeOwner.go 40 id s n1 n2 e1 e2 e3 t1 t2 nm rest bad bad2 w h1 h2 h3 hbad hbad2 _ (fun _ _ W => again.go _ s q m W (fun V => write_own.calls 40 _ _ _ _ _ _ V hq)) _ _ ⟨fun _ _ ha => ?_, fun _ _ ha => ?_, fun _ h => absurd (hb.2.symm.trans h) (by decide), fun h => absurd (hb.1.symm.trans h) (by decide)⟩
    · rw [if_pos (by simpa using ha)] at he
      cases he
      exact ⟨rfl, rfl⟩
    · rw [if_neg (by intro hh; simp [hh.1, hh.2] at ha)] at he
      cases he
      exact ⟨rfl, rfl⟩
  · rw [if_neg hb] at hh
    cases hh
    exact TakeOwner.go 40 id s n1 n2 e1 e2 e3 t1 t2 nm rest bad bad2 w h1 h2 h3 hbad hbad2 false (fun h h' => absurd ⟨h, h'⟩ hb) _ _ ⟨fun h h' => absurd ⟨h, h'⟩ hb, fun h h' => absurd ⟨h, h'⟩ hb, fun _ _ => ⟨rfl, rfl⟩, fun _ => ⟨rfl, rfl⟩⟩
end Go.Proofs.Ytapfidadgafpbaa.G
