/-
  The walk of the law ProtoSizes.
-/
import Derived.Test.YtfbcidfbgebbhaaE2
namespace Go.Proofs.Ytfbcidfbgebbhaa.Pure
set_option linter.unusedVariables false
set_option linter.unusedSimpArgs false
open Go.RowKit Go.Proofs.YtfbcidfbgebbhaaW.PrintWords Go.Proofs.YtfbcidfbgebbhaaW.PrintLast Go.Proofs.YtfbcidfbgebbhaaW.PrintMore
open Go.Proofs.Ytfbcidfbgebbhaa.Q
open Go.Lib (hid)
theorem ones_le : ∀ k m, ones k m ≤ k
  | 0, _ => Nat.le_refl _
  | k + 1, m => by have := ones_le k (m / 2); simp only [ones]; omega
theorem ones_step (cc nn : Int) (g L : Nat) (hp : 0 < nn) (h : cc + ones (g + 1) nn.toNat = L) : cc + nn % 2 + ones g (nn / 2).toNat = L := by
  rw [ones] at h
  have e1 : ((nn.toNat % 2 : Nat) : Int) = nn % 2 := by omega
  have e2 : nn.toNat / 2 = (nn / 2).toNat := by omega
  rw [e2] at h
  omega
set_option maxHeartbeats 2000000 in
set_option maxRecDepth 100000 in
theorem sizes_walk (id : Int) (x0 : Int) (x1 : ByteArray) (x2 : ByteArray) (x3 : ByteArray) (x4 : Int) (x5 : Int) (x6 : Int) (x7 : Int) (x8 : Int) (x9 : Int) (x10 : Bool) (x11 : Int) (x12 : Int) (v : Value) (s : ByteArray) (e : Int) (m : Int) (L : Nat) (W : World) (hw : -9223372036854775808 ≤ x0) (hx1 : x1.size ≤ 140737488351232) (hr : x6 < 9223372036854775808) (h0 : 0 ≤ m) (hs : (0 ≤ x0 ∧ m = x0) ∨ (x0 < 0 ∧ m = -(x0 + 1)))
    (hM : ∀ V : World, Calls Try.prog 9 #[.agg #[.int .i64 x0, .string x1, .string x2, .string x3, .int .i64 x4, .int .i64 x5, .int .i64 x6, .int .i64 x7, .int .i64 x8, .int .i32 x9, .bool x10, .int .i64 x11, .int .i64 x12]] V fun r V' => r = .returned v ∧ Below V.heap.size V V')
    (hE : ∀ V : World, Calls Try.prog 10 #[.int .i64 id, v] V fun r V' => r = .returned (.tuple #[.string s, .int .i64 e]) ∧ Below V.heap.size V V')
    (hL : L = ones 63 x6.toNat) (hfin : (e = 1 ∧ s = ⟨#[]⟩) ∨ (e = 0 ∧ (s.size : Int) = 6 + (wantL x1.size L).getD (m % 13).toNat 0)) :
    Calls Try.prog 4 #[.int .i64 id, .agg #[.int .i64 x0, .string x1, .string x2, .string x3, .int .i64 x4, .int .i64 x5, .int .i64 x6, .int .i64 x7, .int .i64 x8, .int .i32 x9, .bool x10, .int .i64 x11, .int .i64 x12]] W fun r W' => r = .returned (.bool true) ∧ Below W.heap.size W W' := by
  have hB := hid (below_alloc (Below.refl W.heap.size W) (.cells #[.int .i64 x0, .string x1, .string x2, .string x3, .int .i64 x4, .int .i64 x5, .int .i64 x6, .int .i64 x7, .int .i64 x8, .int .i32 x9, .bool x10, .int .i64 x11, .int .i64 x12] 23))
  have hx : Hid ((W.alloc (.cells #[.int .i64 x0, .string x1, .string x2, .string x3, .int .i64 x4, .int .i64 x5, .int .i64 x6, .int .i64 x7, .int .i64 x8, .int .i32 x9, .bool x10, .int .i64 x11, .int .i64 x12] 23)).heap[W.heap.size]? = some (.cells #[.int .i64 x0, .string x1, .string x2, .string x3, .int .i64 x4, .int .i64 x5, .int .i64 x6, .int .i64 x7, .int .i64 x8, .int .i32 x9, .bool x10, .int .i64 x11, .int .i64 x12] 23 (0, 0))) := hid Array.getElem?_push_size
  have hX := hid (fun V => A.examples.calls V)
  replace hM := hid hM
  replace hE := hid hE
  have hn : (x1.size : Int) ≤ 140737488351232 := by omega
  have hLb : (L : Int) ≤ 63 := by have := ones_le 63 x6.toNat; omega
  have hL0 : (0 : Int) ≤ L := by omega
  have e1 : x0 < 0 → wrap64 (x0 + 1) = x0 + 1 := fun _ => by unfold wrap64; omega
  obtain ⟨g0, hg0⟩ : ∃ g, g = W.heap.size := ⟨_, rfl⟩
  replace hg0 := hid hg0
  replace hL := hid hL
  go_enter Try.func4, Try.ntmps4
  (try dsimp only [List.append])
  go_upto_region 1 with fail
  generalize W.alloc (.cells #[.int .i64 x0, .string x1, .string x2, .string x3, .int .i64 x4, .int .i64 x5, .int .i64 x6, .int .i64 x7, .int .i64 x8, .int .i32 x9, .bool x10, .int .i64 x11, .int .i64 x12] 23) = w1 at *
  go_upto_region 4 with (first | ((with_reducible refine Calls.mono (hX.out _) ?_); rintro r w2 ⟨rfl, hb2⟩; replace hx := hid ((hb2.block _ (blk_lt hx.out)).trans hx.out); replace hb2 := hid (below_then hB.out hB.out.size hb2)))
  have c0 : w2.cell? ⟨W.heap.size, 0, none⟩ = some (.int .i64 x0) := (blk_cell hx.out 0).trans rfl
  have c1 : w2.cell? ⟨W.heap.size, 1, none⟩ = some (.string x1) := (blk_cell hx.out 1).trans rfl
  have c2 : w2.cell? ⟨W.heap.size, 2, none⟩ = some (.string x2) := (blk_cell hx.out 2).trans rfl
  have c3 : w2.cell? ⟨W.heap.size, 3, none⟩ = some (.string x3) := (blk_cell hx.out 3).trans rfl
  have c4 : w2.cell? ⟨W.heap.size, 4, none⟩ = some (.int .i64 x4) := (blk_cell hx.out 4).trans rfl
  have c5 : w2.cell? ⟨W.heap.size, 5, none⟩ = some (.int .i64 x5) := (blk_cell hx.out 5).trans rfl
  have c6 : w2.cell? ⟨W.heap.size, 6, none⟩ = some (.int .i64 x6) := (blk_cell hx.out 6).trans rfl
  have c7 : w2.cell? ⟨W.heap.size, 7, none⟩ = some (.int .i64 x7) := (blk_cell hx.out 7).trans rfl
  have c8 : w2.cell? ⟨W.heap.size, 8, none⟩ = some (.int .i64 x8) := (blk_cell hx.out 8).trans rfl
  have c9 : w2.cell? ⟨W.heap.size, 9, none⟩ = some (.int .i32 x9) := (blk_cell hx.out 9).trans rfl
  have c10 : w2.cell? ⟨W.heap.size, 10, none⟩ = some (.bool x10) := (blk_cell hx.out 10).trans rfl
  have c11 : w2.cell? ⟨W.heap.size, 11, none⟩ = some (.int .i64 x11) := (blk_cell hx.out 11).trans rfl
  have c12 : w2.cell? ⟨W.heap.size, 12, none⟩ = some (.int .i64 x12) := (blk_cell hx.out 12).trans rfl
  go_upto_region 5 with (first | ((with_reducible refine Calls.mono (hM.out _) ?_); rintro r w3 ⟨rfl, hb3⟩; replace hx := hid ((hb3.block _ (blk_lt hx.out)).trans hx.out); replace hb3 := hid (below_then hb2.out hb2.out.size hb3)))
  clear c0 c1 c2 c3 c4 c5 c6 c7 c8 c9 c10 c11 c12
  go_upto_region 6 with (first | ((with_reducible refine Calls.mono (hE.out _) ?_); rintro r w4 ⟨rfl, hb4⟩; replace hx := hid ((hb4.block _ (blk_lt hx.out)).trans hx.out); replace hb4 := hid (below_then hb3.out hb3.out.size hb4)))
  rcases hfin with ⟨rfl, rfl⟩ | ⟨rfl, hz⟩
  · go_wp2_with fail
    go_ret
    exact ⟨rfl, hb4.out⟩
  replace hz := hid hz
  have d0 : w4.cell? ⟨W.heap.size, 0, none⟩ = some (.int .i64 x0) := (blk_cell hx.out 0).trans rfl
  have d1 : w4.cell? ⟨W.heap.size, 1, none⟩ = some (.string x1) := (blk_cell hx.out 1).trans rfl
  have d6 : w4.cell? ⟨W.heap.size, 6, none⟩ = some (.int .i64 x6) := (blk_cell hx.out 6).trans rfl
  have hxs := hx
  clear hx hM hE hX
  rcases hs with ⟨h2, rfl⟩ | ⟨h2, hm⟩
  · have h3 : ¬ m < 0 := by omega
    go_upto_region 11 with fail
    clear e1 h2 h3 d0
    go_wp2_with fail
    go_loopg [10, 11] 63 (fun g c n wr => ∃ cc nn : Int, c = .int .i64 cc ∧ n = .int .i64 nn ∧ Hid (cc + ones g nn.toNat = L) ∧ nn < 2 ^ g ∧ nn < 9223372036854775808 ∧ 0 ≤ cc ∧ cc + g ≤ 63 ∧ Hid (wr = w4))
    case atStart => exact ⟨0, x6, rfl, rfl, hid (by rw [hL.out]; simp), by simpa using hr, hr, by omega, by omega, hid rfl⟩
    case round =>
      obtain ⟨cc, nn, rfl, rfl, hinv, hlt, hnb, hc0, hcg, hwr⟩ := hrel
      rw [hwr.out]
      by_cases hp : 0 < nn
      · cases gk with
        | zero => simp at hlt; omega
        | succ g =>
          have hlt2 : nn / 2 < 2 ^ g := by rw [Int.pow_succ] at hlt; omega
          have hinv2 := hid (ones_step cc nn g L hp hinv.out)
          clear hlt hinv
          have qd : wrap64 (nn.tdiv 2) = nn / 2 := by rw [Int.tdiv_eq_ediv_of_nonneg (by omega)]; unfold wrap64; omega
          have q1 : nn % 2 < 2 := by omega
          have q2 : 0 ≤ nn % 2 := by omega
          go_wp2_with fail
          go_roundg g
          case measure => omega
          case rel => exact ⟨cc + nn % 2, nn / 2, by first | rfl | go_num, by first | rfl | (rw [qd]), hinv2, hlt2, by omega, by omega, by omega, hid rfl⟩
      · have hcL : cc = L := by
          have := hinv.out
          rw [show nn.toNat = 0 by omega, ones_zero] at this
          omega
        subst hcL
        clear hinv hlt hcg hwr hc0
        obtain hj | hj | hj | hj | hj | hj | hj | hj | hj | hj | hj | hj | hj : m % 13 = 0 ∨ m % 13 = 1 ∨ m % 13 = 2 ∨ m % 13 = 3 ∨ m % 13 = 4 ∨ m % 13 = 5 ∨ m % 13 = 6 ∨ m % 13 = 7 ∨ m % 13 = 8 ∨ m % 13 = 9 ∨ m % 13 = 10 ∨ m % 13 = 11 ∨ m % 13 = 12 := by omega
        · have hz1 : (s.size : Int) = 6 + (1 + (x1.size : Int)) := by rw [hz.out, hj]; rfl
          have hC : Hid ((w4.alloc (.cells #[.int .i64 (1 + (x1.size : Int)), .int .i64 (3 + (x1.size : Int)), .int .i64 (12 + (L : Int)), .int .i64 (39 + (x1.size : Int) + (L : Int)), .int .i64 33, .int .i64 29, .int .i64 31, .int .i64 30, .int .i64 29, .int .i64 58, .int .i64 33, .int .i64 0, .int .i64 0] 3)).heap[w4.heap.size]? = some (.cells #[.int .i64 (1 + (x1.size : Int)), .int .i64 (3 + (x1.size : Int)), .int .i64 (12 + (L : Int)), .int .i64 (39 + (x1.size : Int) + (L : Int)), .int .i64 33, .int .i64 29, .int .i64 31, .int .i64 30, .int .i64 29, .int .i64 58, .int .i64 33, .int .i64 0, .int .i64 0] 3 (0, 0))) := hid Array.getElem?_push_size
          have hbC := hid (below_alloc hb4.out (.cells #[.int .i64 (1 + (x1.size : Int)), .int .i64 (3 + (x1.size : Int)), .int .i64 (12 + (L : Int)), .int .i64 (39 + (x1.size : Int) + (L : Int)), .int .i64 33, .int .i64 29, .int .i64 31, .int .i64 30, .int .i64 29, .int .i64 58, .int .i64 33, .int .i64 0, .int .i64 0] 3))
          have hsz : 0 ≤ (s.size : Int) := by omega
          go_upto_region 17 with fail
          generalize w4.alloc (.cells #[.int .i64 (1 + (x1.size : Int)), .int .i64 (3 + (x1.size : Int)), .int .i64 (12 + (L : Int)), .int .i64 (39 + (x1.size : Int) + (L : Int)), .int .i64 33, .int .i64 29, .int .i64 31, .int .i64 30, .int .i64 29, .int .i64 58, .int .i64 33, .int .i64 0, .int .i64 0] 3) = w5 at *
          have dj : w5.cell? ⟨w4.heap.size, 0, none⟩ = some (.int .i64 (1 + (x1.size : Int))) := (blk_cell hC.out 0).trans rfl
          clear hC hz
          go_wp2_with fail
          go_ret
          exact ⟨rfl, hbC.out⟩
        · have hz1 : (s.size : Int) = 6 + (3 + (x1.size : Int)) := by rw [hz.out, hj]; rfl
          have hC : Hid ((w4.alloc (.cells #[.int .i64 (1 + (x1.size : Int)), .int .i64 (3 + (x1.size : Int)), .int .i64 (12 + (L : Int)), .int .i64 (39 + (x1.size : Int) + (L : Int)), .int .i64 33, .int .i64 29, .int .i64 31, .int .i64 30, .int .i64 29, .int .i64 58, .int .i64 33, .int .i64 0, .int .i64 0] 3)).heap[w4.heap.size]? = some (.cells #[.int .i64 (1 + (x1.size : Int)), .int .i64 (3 + (x1.size : Int)), .int .i64 (12 + (L : Int)), .int .i64 (39 + (x1.size : Int) + (L : Int)), .int .i64 33, .int .i64 29, .int .i64 31, .int .i64 30, .int .i64 29, .int .i64 58, .int .i64 33, .int .i64 0, .int .i64 0] 3 (0, 0))) := hid Array.getElem?_push_size
          have hbC := hid (below_alloc hb4.out (.cells #[.int .i64 (1 + (x1.size : Int)), .int .i64 (3 + (x1.size : Int)), .int .i64 (12 + (L : Int)), .int .i64 (39 + (x1.size : Int) + (L : Int)), .int .i64 33, .int .i64 29, .int .i64 31, .int .i64 30, .int .i64 29, .int .i64 58, .int .i64 33, .int .i64 0, .int .i64 0] 3))
          have hsz : 0 ≤ (s.size : Int) := by omega
          go_upto_region 17 with fail
          generalize w4.alloc (.cells #[.int .i64 (1 + (x1.size : Int)), .int .i64 (3 + (x1.size : Int)), .int .i64 (12 + (L : Int)), .int .i64 (39 + (x1.size : Int) + (L : Int)), .int .i64 33, .int .i64 29, .int .i64 31, .int .i64 30, .int .i64 29, .int .i64 58, .int .i64 33, .int .i64 0, .int .i64 0] 3) = w5 at *
          have dj : w5.cell? ⟨w4.heap.size, 1, none⟩ = some (.int .i64 (3 + (x1.size : Int))) := (blk_cell hC.out 1).trans rfl
          clear hC hz
          go_wp2_with fail
          go_ret
          exact ⟨rfl, hbC.out⟩
        · have hz1 : (s.size : Int) = 6 + (12 + (L : Int)) := by rw [hz.out, hj]; rfl
          have hC : Hid ((w4.alloc (.cells #[.int .i64 (1 + (x1.size : Int)), .int .i64 (3 + (x1.size : Int)), .int .i64 (12 + (L : Int)), .int .i64 (39 + (x1.size : Int) + (L : Int)), .int .i64 33, .int .i64 29, .int .i64 31, .int .i64 30, .int .i64 29, .int .i64 58, .int .i64 33, .int .i64 0, .int .i64 0] 3)).heap[w4.heap.size]? = some (.cells #[.int .i64 (1 + (x1.size : Int)), .int .i64 (3 + (x1.size : Int)), .int .i64 (12 + (L : Int)), .int .i64 (39 + (x1.size : Int) + (L : Int)), .int .i64 33, .int .i64 29, .int .i64 31, .int .i64 30, .int .i64 29, .int .i64 58, .int .i64 33, .int .i64 0, .int .i64 0] 3 (0, 0))) := hid Array.getElem?_push_size
          have hbC := hid (below_alloc hb4.out (.cells #[.int .i64 (1 + (x1.size : Int)), .int .i64 (3 + (x1.size : Int)), .int .i64 (12 + (L : Int)), .int .i64 (39 + (x1.size : Int) + (L : Int)), .int .i64 33, .int .i64 29, .int .i64 31, .int .i64 30, .int .i64 29, .int .i64 58, .int .i64 33, .int .i64 0, .int .i64 0] 3))
          have hsz : 0 ≤ (s.size : Int) := by omega
          go_upto_region 17 with fail
          generalize w4.alloc (.cells #[.int .i64 (1 + (x1.size : Int)), .int .i64 (3 + (x1.size : Int)), .int .i64 (12 + (L : Int)), .int .i64 (39 + (x1.size : Int) + (L : Int)), .int .i64 33, .int .i64 29, .int .i64 31, .int .i64 30, .int .i64 29, .int .i64 58, .int .i64 33, .int .i64 0, .int .i64 0] 3) = w5 at *
          have dj : w5.cell? ⟨w4.heap.size, 2, none⟩ = some (.int .i64 (12 + (L : Int))) := (blk_cell hC.out 2).trans rfl
          clear hC hz
          go_wp2_with fail
          go_ret
          exact ⟨rfl, hbC.out⟩
        · have hz1 : (s.size : Int) = 6 + (39 + (x1.size : Int) + (L : Int)) := by rw [hz.out, hj]; rfl
          have hC : Hid ((w4.alloc (.cells #[.int .i64 (1 + (x1.size : Int)), .int .i64 (3 + (x1.size : Int)), .int .i64 (12 + (L : Int)), .int .i64 (39 + (x1.size : Int) + (L : Int)), .int .i64 33, .int .i64 29, .int .i64 31, .int .i64 30, .int .i64 29, .int .i64 58, .int .i64 33, .int .i64 0, .int .i64 0] 3)).heap[w4.heap.size]? = some (.cells #[.int .i64 (1 + (x1.size : Int)), .int .i64 (3 + (x1.size : Int)), .int .i64 (12 + (L : Int)), .int .i64 (39 + (x1.size : Int) + (L : Int)), .int .i64 33, .int .i64 29, .int .i64 31, .int .i64 30, .int .i64 29, .int .i64 58, .int .i64 33, .int .i64 0, .int .i64 0] 3 (0, 0))) := hid Array.getElem?_push_size
          have hbC := hid (below_alloc hb4.out (.cells #[.int .i64 (1 + (x1.size : Int)), .int .i64 (3 + (x1.size : Int)), .int .i64 (12 + (L : Int)), .int .i64 (39 + (x1.size : Int) + (L : Int)), .int .i64 33, .int .i64 29, .int .i64 31, .int .i64 30, .int .i64 29, .int .i64 58, .int .i64 33, .int .i64 0, .int .i64 0] 3))
          have hsz : 0 ≤ (s.size : Int) := by omega
          go_upto_region 17 with fail
          generalize w4.alloc (.cells #[.int .i64 (1 + (x1.size : Int)), .int .i64 (3 + (x1.size : Int)), .int .i64 (12 + (L : Int)), .int .i64 (39 + (x1.size : Int) + (L : Int)), .int .i64 33, .int .i64 29, .int .i64 31, .int .i64 30, .int .i64 29, .int .i64 58, .int .i64 33, .int .i64 0, .int .i64 0] 3) = w5 at *
          have dj : w5.cell? ⟨w4.heap.size, 3, none⟩ = some (.int .i64 (39 + (x1.size : Int) + (L : Int))) := (blk_cell hC.out 3).trans rfl
          clear hC hz
          go_wp2_with fail
          go_ret
          exact ⟨rfl, hbC.out⟩
        · have hz1 : (s.size : Int) = 6 + (33) := by rw [hz.out, hj]; rfl
          have hC : Hid ((w4.alloc (.cells #[.int .i64 (1 + (x1.size : Int)), .int .i64 (3 + (x1.size : Int)), .int .i64 (12 + (L : Int)), .int .i64 (39 + (x1.size : Int) + (L : Int)), .int .i64 33, .int .i64 29, .int .i64 31, .int .i64 30, .int .i64 29, .int .i64 58, .int .i64 33, .int .i64 0, .int .i64 0] 3)).heap[w4.heap.size]? = some (.cells #[.int .i64 (1 + (x1.size : Int)), .int .i64 (3 + (x1.size : Int)), .int .i64 (12 + (L : Int)), .int .i64 (39 + (x1.size : Int) + (L : Int)), .int .i64 33, .int .i64 29, .int .i64 31, .int .i64 30, .int .i64 29, .int .i64 58, .int .i64 33, .int .i64 0, .int .i64 0] 3 (0, 0))) := hid Array.getElem?_push_size
          have hbC := hid (below_alloc hb4.out (.cells #[.int .i64 (1 + (x1.size : Int)), .int .i64 (3 + (x1.size : Int)), .int .i64 (12 + (L : Int)), .int .i64 (39 + (x1.size : Int) + (L : Int)), .int .i64 33, .int .i64 29, .int .i64 31, .int .i64 30, .int .i64 29, .int .i64 58, .int .i64 33, .int .i64 0, .int .i64 0] 3))
          have hsz : 0 ≤ (s.size : Int) := by omega
          go_upto_region 17 with fail
          generalize w4.alloc (.cells #[.int .i64 (1 + (x1.size : Int)), .int .i64 (3 + (x1.size : Int)), .int .i64 (12 + (L : Int)), .int .i64 (39 + (x1.size : Int) + (L : Int)), .int .i64 33, .int .i64 29, .int .i64 31, .int .i64 30, .int .i64 29, .int .i64 58, .int .i64 33, .int .i64 0, .int .i64 0] 3) = w5 at *
          have dj : w5.cell? ⟨w4.heap.size, 4, none⟩ = some (.int .i64 (33)) := (blk_cell hC.out 4).trans rfl
          clear hC hz
          go_wp2_with fail
          go_ret
          exact ⟨rfl, hbC.out⟩
        · have hz1 : (s.size : Int) = 6 + (29) := by rw [hz.out, hj]; rfl
          have hC : Hid ((w4.alloc (.cells #[.int .i64 (1 + (x1.size : Int)), .int .i64 (3 + (x1.size : Int)), .int .i64 (12 + (L : Int)), .int .i64 (39 + (x1.size : Int) + (L : Int)), .int .i64 33, .int .i64 29, .int .i64 31, .int .i64 30, .int .i64 29, .int .i64 58, .int .i64 33, .int .i64 0, .int .i64 0] 3)).heap[w4.heap.size]? = some (.cells #[.int .i64 (1 + (x1.size : Int)), .int .i64 (3 + (x1.size : Int)), .int .i64 (12 + (L : Int)), .int .i64 (39 + (x1.size : Int) + (L : Int)), .int .i64 33, .int .i64 29, .int .i64 31, .int .i64 30, .int .i64 29, .int .i64 58, .int .i64 33, .int .i64 0, .int .i64 0] 3 (0, 0))) := hid Array.getElem?_push_size
          have hbC := hid (below_alloc hb4.out (.cells #[.int .i64 (1 + (x1.size : Int)), .int .i64 (3 + (x1.size : Int)), .int .i64 (12 + (L : Int)), .int .i64 (39 + (x1.size : Int) + (L : Int)), .int .i64 33, .int .i64 29, .int .i64 31, .int .i64 30, .int .i64 29, .int .i64 58, .int .i64 33, .int .i64 0, .int .i64 0] 3))
          have hsz : 0 ≤ (s.size : Int) := by omega
          go_upto_region 17 with fail
          generalize w4.alloc (.cells #[.int .i64 (1 + (x1.size : Int)), .int .i64 (3 + (x1.size : Int)), .int .i64 (12 + (L : Int)), .int .i64 (39 + (x1.size : Int) + (L : Int)), .int .i64 33, .int .i64 29, .int .i64 31, .int .i64 30, .int .i64 29, .int .i64 58, .int .i64 33, .int .i64 0, .int .i64 0] 3) = w5 at *
          have dj : w5.cell? ⟨w4.heap.size, 5, none⟩ = some (.int .i64 (29)) := (blk_cell hC.out 5).trans rfl
          clear hC hz
          go_wp2_with fail
          go_ret
          exact ⟨rfl, hbC.out⟩
        · have hz1 : (s.size : Int) = 6 + (31) := by rw [hz.out, hj]; rfl
          have hC : Hid ((w4.alloc (.cells #[.int .i64 (1 + (x1.size : Int)), .int .i64 (3 + (x1.size : Int)), .int .i64 (12 + (L : Int)), .int .i64 (39 + (x1.size : Int) + (L : Int)), .int .i64 33, .int .i64 29, .int .i64 31, .int .i64 30, .int .i64 29, .int .i64 58, .int .i64 33, .int .i64 0, .int .i64 0] 3)).heap[w4.heap.size]? = some (.cells #[.int .i64 (1 + (x1.size : Int)), .int .i64 (3 + (x1.size : Int)), .int .i64 (12 + (L : Int)), .int .i64 (39 + (x1.size : Int) + (L : Int)), .int .i64 33, .int .i64 29, .int .i64 31, .int .i64 30, .int .i64 29, .int .i64 58, .int .i64 33, .int .i64 0, .int .i64 0] 3 (0, 0))) := hid Array.getElem?_push_size
          have hbC := hid (below_alloc hb4.out (.cells #[.int .i64 (1 + (x1.size : Int)), .int .i64 (3 + (x1.size : Int)), .int .i64 (12 + (L : Int)), .int .i64 (39 + (x1.size : Int) + (L : Int)), .int .i64 33, .int .i64 29, .int .i64 31, .int .i64 30, .int .i64 29, .int .i64 58, .int .i64 33, .int .i64 0, .int .i64 0] 3))
          have hsz : 0 ≤ (s.size : Int) := by omega
          go_upto_region 17 with fail
          generalize w4.alloc (.cells #[.int .i64 (1 + (x1.size : Int)), .int .i64 (3 + (x1.size : Int)), .int .i64 (12 + (L : Int)), .int .i64 (39 + (x1.size : Int) + (L : Int)), .int .i64 33, .int .i64 29, .int .i64 31, .int .i64 30, .int .i64 29, .int .i64 58, .int .i64 33, .int .i64 0, .int .i64 0] 3) = w5 at *
          have dj : w5.cell? ⟨w4.heap.size, 6, none⟩ = some (.int .i64 (31)) := (blk_cell hC.out 6).trans rfl
          clear hC hz
          go_wp2_with fail
          go_ret
          exact ⟨rfl, hbC.out⟩
        · have hz1 : (s.size : Int) = 6 + (30) := by rw [hz.out, hj]; rfl
          have hC : Hid ((w4.alloc (.cells #[.int .i64 (1 + (x1.size : Int)), .int .i64 (3 + (x1.size : Int)), .int .i64 (12 + (L : Int)), .int .i64 (39 + (x1.size : Int) + (L : Int)), .int .i64 33, .int .i64 29, .int .i64 31, .int .i64 30, .int .i64 29, .int .i64 58, .int .i64 33, .int .i64 0, .int .i64 0] 3)).heap[w4.heap.size]? = some (.cells #[.int .i64 (1 + (x1.size : Int)), .int .i64 (3 + (x1.size : Int)), .int .i64 (12 + (L : Int)), .int .i64 (39 + (x1.size : Int) + (L : Int)), .int .i64 33, .int .i64 29, .int .i64 31, .int .i64 30, .int .i64 29, .int .i64 58, .int .i64 33, .int .i64 0, .int .i64 0] 3 (0, 0))) := hid Array.getElem?_push_size
          have hbC := hid (below_alloc hb4.out (.cells #[.int .i64 (1 + (x1.size : Int)), .int .i64 (3 + (x1.size : Int)), .int .i64 (12 + (L : Int)), .int .i64 (39 + (x1.size : Int) + (L : Int)), .int .i64 33, .int .i64 29, .int .i64 31, .int .i64 30, .int .i64 29, .int .i64 58, .int .i64 33, .int .i64 0, .int .i64 0] 3))
          have hsz : 0 ≤ (s.size : Int) := by omega
          go_upto_region 17 with fail
          generalize w4.alloc (.cells #[.int .i64 (1 + (x1.size : Int)), .int .i64 (3 + (x1.size : Int)), .int .i64 (12 + (L : Int)), .int .i64 (39 + (x1.size : Int) + (L : Int)), .int .i64 33, .int .i64 29, .int .i64 31, .int .i64 30, .int .i64 29, .int .i64 58, .int .i64 33, .int .i64 0, .int .i64 0] 3) = w5 at *
          have dj : w5.cell? ⟨w4.heap.size, 7, none⟩ = some (.int .i64 (30)) := (blk_cell hC.out 7).trans rfl
          clear hC hz
          go_wp2_with fail
          go_ret
          exact ⟨rfl, hbC.out⟩
        · have hz1 : (s.size : Int) = 6 + (29) := by rw [hz.out, hj]; rfl
          have hC : Hid ((w4.alloc (.cells #[.int .i64 (1 + (x1.size : Int)), .int .i64 (3 + (x1.size : Int)), .int .i64 (12 + (L : Int)), .int .i64 (39 + (x1.size : Int) + (L : Int)), .int .i64 33, .int .i64 29, .int .i64 31, .int .i64 30, .int .i64 29, .int .i64 58, .int .i64 33, .int .i64 0, .int .i64 0] 3)).heap[w4.heap.size]? = some (.cells #[.int .i64 (1 + (x1.size : Int)), .int .i64 (3 + (x1.size : Int)), .int .i64 (12 + (L : Int)), .int .i64 (39 + (x1.size : Int) + (L : Int)), .int .i64 33, .int .i64 29, .int .i64 31, .int .i64 30, .int .i64 29, .int .i64 58, .int .i64 33, .int .i64 0, .int .i64 0] 3 (0, 0))) := hid Array.getElem?_push_size
          have hbC := hid (below_alloc hb4.out (.cells #[.int .i64 (1 + (x1.size : Int)), .int .i64 (3 + (x1.size : Int)), .int .i64 (12 + (L : Int)), .int .i64 (39 + (x1.size : Int) + (L : Int)), .int .i64 33, .int .i64 29, .int .i64 31, .int .i64 30, .int .i64 29, .int .i64 58, .int .i64 33, .int .i64 0, .int .i64 0] 3))
          have hsz : 0 ≤ (s.size : Int) := by omega
          go_upto_region 17 with fail
          generalize w4.alloc (.cells #[.int .i64 (1 + (x1.size : Int)), .int .i64 (3 + (x1.size : Int)), .int .i64 (12 + (L : Int)), .int .i64 (39 + (x1.size : Int) + (L : Int)), .int .i64 33, .int .i64 29, .int .i64 31, .int .i64 30, .int .i64 29, .int .i64 58, .int .i64 33, .int .i64 0, .int .i64 0] 3) = w5 at *
          have dj : w5.cell? ⟨w4.heap.size, 8, none⟩ = some (.int .i64 (29)) := (blk_cell hC.out 8).trans rfl
          clear hC hz
          go_wp2_with fail
          go_ret
          exact ⟨rfl, hbC.out⟩
        · have hz1 : (s.size : Int) = 6 + (58) := by rw [hz.out, hj]; rfl
          have hC : Hid ((w4.alloc (.cells #[.int .i64 (1 + (x1.size : Int)), .int .i64 (3 + (x1.size : Int)), .int .i64 (12 + (L : Int)), .int .i64 (39 + (x1.size : Int) + (L : Int)), .int .i64 33, .int .i64 29, .int .i64 31, .int .i64 30, .int .i64 29, .int .i64 58, .int .i64 33, .int .i64 0, .int .i64 0] 3)).heap[w4.heap.size]? = some (.cells #[.int .i64 (1 + (x1.size : Int)), .int .i64 (3 + (x1.size : Int)), .int .i64 (12 + (L : Int)), .int .i64 (39 + (x1.size : Int) + (L : Int)), .int .i64 33, .int .i64 29, .int .i64 31, .int .i64 30, .int .i64 29, .int .i64 58, .int .i64 33, .int .i64 0, .int .i64 0] 3 (0, 0))) := hid Array.getElem?_push_size
          have hbC := hid (below_alloc hb4.out (.cells #[.int .i64 (1 + (x1.size : Int)), .int .i64 (3 + (x1.size : Int)), .int .i64 (12 + (L : Int)), .int .i64 (39 + (x1.size : Int) + (L : Int)), .int .i64 33, .int .i64 29, .int .i64 31, .int .i64 30, .int .i64 29, .int .i64 58, .int .i64 33, .int .i64 0, .int .i64 0] 3))
          have hsz : 0 ≤ (s.size : Int) := by omega
          go_upto_region 17 with fail
          generalize w4.alloc (.cells #[.int .i64 (1 + (x1.size : Int)), .int .i64 (3 + (x1.size : Int)), .int .i64 (12 + (L : Int)), .int .i64 (39 + (x1.size : Int) + (L : Int)), .int .i64 33, .int .i64 29, .int .i64 31, .int .i64 30, .int .i64 29, .int .i64 58, .int .i64 33, .int .i64 0, .int .i64 0] 3) = w5 at *
          have dj : w5.cell? ⟨w4.heap.size, 9, none⟩ = some (.int .i64 (58)) := (blk_cell hC.out 9).trans rfl
          clear hC hz
          go_wp2_with fail
          go_ret
          exact ⟨rfl, hbC.out⟩
        · have hz1 : (s.size : Int) = 6 + (33) := by rw [hz.out, hj]; rfl
          have hC : Hid ((w4.alloc (.cells #[.int .i64 (1 + (x1.size : Int)), .int .i64 (3 + (x1.size : Int)), .int .i64 (12 + (L : Int)), .int .i64 (39 + (x1.size : Int) + (L : Int)), .int .i64 33, .int .i64 29, .int .i64 31, .int .i64 30, .int .i64 29, .int .i64 58, .int .i64 33, .int .i64 0, .int .i64 0] 3)).heap[w4.heap.size]? = some (.cells #[.int .i64 (1 + (x1.size : Int)), .int .i64 (3 + (x1.size : Int)), .int .i64 (12 + (L : Int)), .int .i64 (39 + (x1.size : Int) + (L : Int)), .int .i64 33, .int .i64 29, .int .i64 31, .int .i64 30, .int .i64 29, .int .i64 58, .int .i64 33, .int .i64 0, .int .i64 0] 3 (0, 0))) := hid Array.getElem?_push_size
          have hbC := hid (below_alloc hb4.out (.cells #[.int .i64 (1 + (x1.size : Int)), .int .i64 (3 + (x1.size : Int)), .int .i64 (12 + (L : Int)), .int .i64 (39 + (x1.size : Int) + (L : Int)), .int .i64 33, .int .i64 29, .int .i64 31, .int .i64 30, .int .i64 29, .int .i64 58, .int .i64 33, .int .i64 0, .int .i64 0] 3))
          have hsz : 0 ≤ (s.size : Int) := by omega
          go_upto_region 17 with fail
          generalize w4.alloc (.cells #[.int .i64 (1 + (x1.size : Int)), .int .i64 (3 + (x1.size : Int)), .int .i64 (12 + (L : Int)), .int .i64 (39 + (x1.size : Int) + (L : Int)), .int .i64 33, .int .i64 29, .int .i64 31, .int .i64 30, .int .i64 29, .int .i64 58, .int .i64 33, .int .i64 0, .int .i64 0] 3) = w5 at *
          have dj : w5.cell? ⟨w4.heap.size, 10, none⟩ = some (.int .i64 (33)) := (blk_cell hC.out 10).trans rfl
          clear hC hz
          go_wp2_with fail
          go_ret
          exact ⟨rfl, hbC.out⟩
        · have hz1 : (s.size : Int) = 6 + (0) := by rw [hz.out, hj]; rfl
          have hC : Hid ((w4.alloc (.cells #[.int .i64 (1 + (x1.size : Int)), .int .i64 (3 + (x1.size : Int)), .int .i64 (12 + (L : Int)), .int .i64 (39 + (x1.size : Int) + (L : Int)), .int .i64 33, .int .i64 29, .int .i64 31, .int .i64 30, .int .i64 29, .int .i64 58, .int .i64 33, .int .i64 0, .int .i64 0] 3)).heap[w4.heap.size]? = some (.cells #[.int .i64 (1 + (x1.size : Int)), .int .i64 (3 + (x1.size : Int)), .int .i64 (12 + (L : Int)), .int .i64 (39 + (x1.size : Int) + (L : Int)), .int .i64 33, .int .i64 29, .int .i64 31, .int .i64 30, .int .i64 29, .int .i64 58, .int .i64 33, .int .i64 0, .int .i64 0] 3 (0, 0))) := hid Array.getElem?_push_size
          have hbC := hid (below_alloc hb4.out (.cells #[.int .i64 (1 + (x1.size : Int)), .int .i64 (3 + (x1.size : Int)), .int .i64 (12 + (L : Int)), .int .i64 (39 + (x1.size : Int) + (L : Int)), .int .i64 33, .int .i64 29, .int .i64 31, .int .i64 30, .int .i64 29, .int .i64 58, .int .i64 33, .int .i64 0, .int .i64 0] 3))
          have hsz : 0 ≤ (s.size : Int) := by omega
          go_upto_region 17 with fail
          generalize w4.alloc (.cells #[.int .i64 (1 + (x1.size : Int)), .int .i64 (3 + (x1.size : Int)), .int .i64 (12 + (L : Int)), .int .i64 (39 + (x1.size : Int) + (L : Int)), .int .i64 33, .int .i64 29, .int .i64 31, .int .i64 30, .int .i64 29, .int .i64 58, .int .i64 33, .int .i64 0, .int .i64 0] 3) = w5 at *
          have dj : w5.cell? ⟨w4.heap.size, 11, none⟩ = some (.int .i64 (0)) := (blk_cell hC.out 11).trans rfl
          clear hC hz
          go_wp2_with fail
          go_ret
          exact ⟨rfl, hbC.out⟩
        · have hz1 : (s.size : Int) = 6 + (0) := by rw [hz.out, hj]; rfl
          have hC : Hid ((w4.alloc (.cells #[.int .i64 (1 + (x1.size : Int)), .int .i64 (3 + (x1.size : Int)), .int .i64 (12 + (L : Int)), .int .i64 (39 + (x1.size : Int) + (L : Int)), .int .i64 33, .int .i64 29, .int .i64 31, .int .i64 30, .int .i64 29, .int .i64 58, .int .i64 33, .int .i64 0, .int .i64 0] 3)).heap[w4.heap.size]? = some (.cells #[.int .i64 (1 + (x1.size : Int)), .int .i64 (3 + (x1.size : Int)), .int .i64 (12 + (L : Int)), .int .i64 (39 + (x1.size : Int) + (L : Int)), .int .i64 33, .int .i64 29, .int .i64 31, .int .i64 30, .int .i64 29, .int .i64 58, .int .i64 33, .int .i64 0, .int .i64 0] 3 (0, 0))) := hid Array.getElem?_push_size
          have hbC := hid (below_alloc hb4.out (.cells #[.int .i64 (1 + (x1.size : Int)), .int .i64 (3 + (x1.size : Int)), .int .i64 (12 + (L : Int)), .int .i64 (39 + (x1.size : Int) + (L : Int)), .int .i64 33, .int .i64 29, .int .i64 31, .int .i64 30, .int .i64 29, .int .i64 58, .int .i64 33, .int .i64 0, .int .i64 0] 3))
          have hsz : 0 ≤ (s.size : Int) := by omega
          go_upto_region 17 with fail
          generalize w4.alloc (.cells #[.int .i64 (1 + (x1.size : Int)), .int .i64 (3 + (x1.size : Int)), .int .i64 (12 + (L : Int)), .int .i64 (39 + (x1.size : Int) + (L : Int)), .int .i64 33, .int .i64 29, .int .i64 31, .int .i64 30, .int .i64 29, .int .i64 58, .int .i64 33, .int .i64 0, .int .i64 0] 3) = w5 at *
          have dj : w5.cell? ⟨w4.heap.size, 12, none⟩ = some (.int .i64 (0)) := (blk_cell hC.out 12).trans rfl
          clear hC hz
          go_wp2_with fail
          go_ret
          exact ⟨rfl, hbC.out⟩

  · replace e1 := e1 h2
    replace hm := hid hm
    go_upto_region 11 with fail
    rw [← hm.out]
    clear hm e1 h2 d0
    go_wp2_with fail
    go_loopg [10, 11] 63 (fun g c n wr => ∃ cc nn : Int, c = .int .i64 cc ∧ n = .int .i64 nn ∧ Hid (cc + ones g nn.toNat = L) ∧ nn < 2 ^ g ∧ nn < 9223372036854775808 ∧ 0 ≤ cc ∧ cc + g ≤ 63 ∧ Hid (wr = w4))
    case atStart => exact ⟨0, x6, rfl, rfl, hid (by rw [hL.out]; simp), by simpa using hr, hr, by omega, by omega, hid rfl⟩
    case round =>
      obtain ⟨cc, nn, rfl, rfl, hinv, hlt, hnb, hc0, hcg, hwr⟩ := hrel
      rw [hwr.out]
      by_cases hp : 0 < nn
      · cases gk with
        | zero => simp at hlt; omega
        | succ g =>
          have hlt2 : nn / 2 < 2 ^ g := by rw [Int.pow_succ] at hlt; omega
          have hinv2 := hid (ones_step cc nn g L hp hinv.out)
          clear hlt hinv
          have qd : wrap64 (nn.tdiv 2) = nn / 2 := by rw [Int.tdiv_eq_ediv_of_nonneg (by omega)]; unfold wrap64; omega
          have q1 : nn % 2 < 2 := by omega
          have q2 : 0 ≤ nn % 2 := by omega
          go_wp2_with fail
          go_roundg g
          case measure => omega
          case rel => exact ⟨cc + nn % 2, nn / 2, by first | rfl | go_num, by first | rfl | (rw [qd]), hinv2, hlt2, by omega, by omega, by omega, hid rfl⟩
      · have hcL : cc = L := by
          have := hinv.out
          rw [show nn.toNat = 0 by omega, ones_zero] at this
          omega
        subst hcL
        clear hinv hlt hcg hwr hc0
        obtain hj | hj | hj | hj | hj | hj | hj | hj | hj | hj | hj | hj | hj : m % 13 = 0 ∨ m % 13 = 1 ∨ m % 13 = 2 ∨ m % 13 = 3 ∨ m % 13 = 4 ∨ m % 13 = 5 ∨ m % 13 = 6 ∨ m % 13 = 7 ∨ m % 13 = 8 ∨ m % 13 = 9 ∨ m % 13 = 10 ∨ m % 13 = 11 ∨ m % 13 = 12 := by omega
        · have hz1 : (s.size : Int) = 6 + (1 + (x1.size : Int)) := by rw [hz.out, hj]; rfl
          have hC : Hid ((w4.alloc (.cells #[.int .i64 (1 + (x1.size : Int)), .int .i64 (3 + (x1.size : Int)), .int .i64 (12 + (L : Int)), .int .i64 (39 + (x1.size : Int) + (L : Int)), .int .i64 33, .int .i64 29, .int .i64 31, .int .i64 30, .int .i64 29, .int .i64 58, .int .i64 33, .int .i64 0, .int .i64 0] 3)).heap[w4.heap.size]? = some (.cells #[.int .i64 (1 + (x1.size : Int)), .int .i64 (3 + (x1.size : Int)), .int .i64 (12 + (L : Int)), .int .i64 (39 + (x1.size : Int) + (L : Int)), .int .i64 33, .int .i64 29, .int .i64 31, .int .i64 30, .int .i64 29, .int .i64 58, .int .i64 33, .int .i64 0, .int .i64 0] 3 (0, 0))) := hid Array.getElem?_push_size
          have hbC := hid (below_alloc hb4.out (.cells #[.int .i64 (1 + (x1.size : Int)), .int .i64 (3 + (x1.size : Int)), .int .i64 (12 + (L : Int)), .int .i64 (39 + (x1.size : Int) + (L : Int)), .int .i64 33, .int .i64 29, .int .i64 31, .int .i64 30, .int .i64 29, .int .i64 58, .int .i64 33, .int .i64 0, .int .i64 0] 3))
          have hsz : 0 ≤ (s.size : Int) := by omega
          go_upto_region 17 with fail
          generalize w4.alloc (.cells #[.int .i64 (1 + (x1.size : Int)), .int .i64 (3 + (x1.size : Int)), .int .i64 (12 + (L : Int)), .int .i64 (39 + (x1.size : Int) + (L : Int)), .int .i64 33, .int .i64 29, .int .i64 31, .int .i64 30, .int .i64 29, .int .i64 58, .int .i64 33, .int .i64 0, .int .i64 0] 3) = w5 at *
          have dj : w5.cell? ⟨w4.heap.size, 0, none⟩ = some (.int .i64 (1 + (x1.size : Int))) := (blk_cell hC.out 0).trans rfl
          clear hC hz
          go_wp2_with fail
          go_ret
          exact ⟨rfl, hbC.out⟩
        · have hz1 : (s.size : Int) = 6 + (3 + (x1.size : Int)) := by rw [hz.out, hj]; rfl
          have hC : Hid ((w4.alloc (.cells #[.int .i64 (1 + (x1.size : Int)), .int .i64 (3 + (x1.size : Int)), .int .i64 (12 + (L : Int)), .int .i64 (39 + (x1.size : Int) + (L : Int)), .int .i64 33, .int .i64 29, .int .i64 31, .int .i64 30, .int .i64 29, .int .i64 58, .int .i64 33, .int .i64 0, .int .i64 0] 3)).heap[w4.heap.size]? = some (.cells #[.int .i64 (1 + (x1.size : Int)), .int .i64 (3 + (x1.size : Int)), .int .i64 (12 + (L : Int)), .int .i64 (39 + (x1.size : Int) + (L : Int)), .int .i64 33, .int .i64 29, .int .i64 31, .int .i64 30, .int .i64 29, .int .i64 58, .int .i64 33, .int .i64 0, .int .i64 0] 3 (0, 0))) := hid Array.getElem?_push_size
          have hbC := hid (below_alloc hb4.out (.cells #[.int .i64 (1 + (x1.size : Int)), .int .i64 (3 + (x1.size : Int)), .int .i64 (12 + (L : Int)), .int .i64 (39 + (x1.size : Int) + (L : Int)), .int .i64 33, .int .i64 29, .int .i64 31, .int .i64 30, .int .i64 29, .int .i64 58, .int .i64 33, .int .i64 0, .int .i64 0] 3))
          have hsz : 0 ≤ (s.size : Int) := by omega
          go_upto_region 17 with fail
          generalize w4.alloc (.cells #[.int .i64 (1 + (x1.size : Int)), .int .i64 (3 + (x1.size : Int)), .int .i64 (12 + (L : Int)), .int .i64 (39 + (x1.size : Int) + (L : Int)), .int .i64 33, .int .i64 29, .int .i64 31, .int .i64 30, .int .i64 29, .int .i64 58, .int .i64 33, .int .i64 0, .int .i64 0] 3) = w5 at *
          have dj : w5.cell? ⟨w4.heap.size, 1, none⟩ = some (.int .i64 (3 + (x1.size : Int))) := (blk_cell hC.out 1).trans rfl
          clear hC hz
          go_wp2_with fail
          go_ret
          exact ⟨rfl, hbC.out⟩
        · have hz1 : (s.size : Int) = 6 + (12 + (L : Int)) := by rw [hz.out, hj]; rfl
          have hC : Hid ((w4.alloc (.cells #[.int .i64 (1 + (x1.size : Int)), .int .i64 (3 + (x1.size : Int)), .int .i64 (12 + (L : Int)), .int .i64 (39 + (x1.size : Int) + (L : Int)), .int .i64 33, .int .i64 29, .int .i64 31, .int .i64 30, .int .i64 29, .int .i64 58, .int .i64 33, .int .i64 0, .int .i64 0] 3)).heap[w4.heap.size]? = some (.cells #[.int .i64 (1 + (x1.size : Int)), .int .i64 (3 + (x1.size : Int)), .int .i64 (12 + (L : Int)), .int .i64 (39 + (x1.size : Int) + (L : Int)), .int .i64 33, .int .i64 29, .int .i64 31, .int .i64 30, .int .i64 29, .int .i64 58, .int .i64 33, .int .i64 0, .int .i64 0] 3 (0, 0))) := hid Array.getElem?_push_size
          have hbC := hid (below_alloc hb4.out (.cells #[.int .i64 (1 + (x1.size : Int)), .int .i64 (3 + (x1.size : Int)), .int .i64 (12 + (L : Int)), .int .i64 (39 + (x1.size : Int) + (L : Int)), .int .i64 33, .int .i64 29, .int .i64 31, .int .i64 30, .int .i64 29, .int .i64 58, .int .i64 33, .int .i64 0, .int .i64 0] 3))
          have hsz : 0 ≤ (s.size : Int) := by omega
          go_upto_region 17 with fail
          generalize w4.alloc (.cells #[.int .i64 (1 + (x1.size : Int)), .int .i64 (3 + (x1.size : Int)), .int .i64 (12 + (L : Int)), .int .i64 (39 + (x1.size : Int) + (L : Int)), .int .i64 33, .int .i64 29, .int .i64 31, .int .i64 30, .int .i64 29, .int .i64 58, .int .i64 33, .int .i64 0, .int .i64 0] 3) = w5 at *
          have dj : w5.cell? ⟨w4.heap.size, 2, none⟩ = some (.int .i64 (12 + (L : Int))) := (blk_cell hC.out 2).trans rfl
          clear hC hz
          go_wp2_with fail
          go_ret
          exact ⟨rfl, hbC.out⟩
        · have hz1 : (s.size : Int) = 6 + (39 + (x1.size : Int) + (L : Int)) := by rw [hz.out, hj]; rfl
          have hC : Hid ((w4.alloc (.cells #[.int .i64 (1 + (x1.size : Int)), .int .i64 (3 + (x1.size : Int)), .int .i64 (12 + (L : Int)), .int .i64 (39 + (x1.size : Int) + (L : Int)), .int .i64 33, .int .i64 29, .int .i64 31, .int .i64 30, .int .i64 29, .int .i64 58, .int .i64 33, .int .i64 0, .int .i64 0] 3)).heap[w4.heap.size]? = some (.cells #[.int .i64 (1 + (x1.size : Int)), .int .i64 (3 + (x1.size : Int)), .int .i64 (12 + (L : Int)), .int .i64 (39 + (x1.size : Int) + (L : Int)), .int .i64 33, .int .i64 29, .int .i64 31, .int .i64 30, .int .i64 29, .int .i64 58, .int .i64 33, .int .i64 0, .int .i64 0] 3 (0, 0))) := hid Array.getElem?_push_size
          have hbC := hid (below_alloc hb4.out (.cells #[.int .i64 (1 + (x1.size : Int)), .int .i64 (3 + (x1.size : Int)), .int .i64 (12 + (L : Int)), .int .i64 (39 + (x1.size : Int) + (L : Int)), .int .i64 33, .int .i64 29, .int .i64 31, .int .i64 30, .int .i64 29, .int .i64 58, .int .i64 33, .int .i64 0, .int .i64 0] 3))
          have hsz : 0 ≤ (s.size : Int) := by omega
          go_upto_region 17 with fail
          generalize w4.alloc (.cells #[.int .i64 (1 + (x1.size : Int)), .int .i64 (3 + (x1.size : Int)), .int .i64 (12 + (L : Int)), .int .i64 (39 + (x1.size : Int) + (L : Int)), .int .i64 33, .int .i64 29, .int .i64 31, .int .i64 30, .int .i64 29, .int .i64 58, .int .i64 33, .int .i64 0, .int .i64 0] 3) = w5 at *
          have dj : w5.cell? ⟨w4.heap.size, 3, none⟩ = some (.int .i64 (39 + (x1.size : Int) + (L : Int))) := (blk_cell hC.out 3).trans rfl
          clear hC hz
          go_wp2_with fail
          go_ret
          exact ⟨rfl, hbC.out⟩
        · have hz1 : (s.size : Int) = 6 + (33) := by rw [hz.out, hj]; rfl
          have hC : Hid ((w4.alloc (.cells #[.int .i64 (1 + (x1.size : Int)), .int .i64 (3 + (x1.size : Int)), .int .i64 (12 + (L : Int)), .int .i64 (39 + (x1.size : Int) + (L : Int)), .int .i64 33, .int .i64 29, .int .i64 31, .int .i64 30, .int .i64 29, .int .i64 58, .int .i64 33, .int .i64 0, .int .i64 0] 3)).heap[w4.heap.size]? = some (.cells #[.int .i64 (1 + (x1.size : Int)), .int .i64 (3 + (x1.size : Int)), .int .i64 (12 + (L : Int)), .int .i64 (39 + (x1.size : Int) + (L : Int)), .int .i64 33, .int .i64 29, .int .i64 31, .int .i64 30, .int .i64 29, .int .i64 58, .int .i64 33, .int .i64 0, .int .i64 0] 3 (0, 0))) := hid Array.getElem?_push_size
          have hbC := hid (below_alloc hb4.out (.cells #[.int .i64 (1 + (x1.size : Int)), .int .i64 (3 + (x1.size : Int)), .int .i64 (12 + (L : Int)), .int .i64 (39 + (x1.size : Int) + (L : Int)), .int .i64 33, .int .i64 29, .int .i64 31, .int .i64 30, .int .i64 29, .int .i64 58, .int .i64 33, .int .i64 0, .int .i64 0] 3))
          have hsz : 0 ≤ (s.size : Int) := by omega
          go_upto_region 17 with fail
          generalize w4.alloc (.cells #[.int .i64 (1 + (x1.size : Int)), .int .i64 (3 + (x1.size : Int)), .int .i64 (12 + (L : Int)), .int .i64 (39 + (x1.size : Int) + (L : Int)), .int .i64 33, .int .i64 29, .int .i64 31, .int .i64 30, .int .i64 29, .int .i64 58, .int .i64 33, .int .i64 0, .int .i64 0] 3) = w5 at *
          have dj : w5.cell? ⟨w4.heap.size, 4, none⟩ = some (.int .i64 (33)) := (blk_cell hC.out 4).trans rfl
          clear hC hz
          go_wp2_with fail
          go_ret
          exact ⟨rfl, hbC.out⟩
        · have hz1 : (s.size : Int) = 6 + (29) := by rw [hz.out, hj]; rfl
          have hC : Hid ((w4.alloc (.cells #[.int .i64 (1 + (x1.size : Int)), .int .i64 (3 + (x1.size : Int)), .int .i64 (12 + (L : Int)), .int .i64 (39 + (x1.size : Int) + (L : Int)), .int .i64 33, .int .i64 29, .int .i64 31, .int .i64 30, .int .i64 29, .int .i64 58, .int .i64 33, .int .i64 0, .int .i64 0] 3)).heap[w4.heap.size]? = some (.cells #[.int .i64 (1 + (x1.size : Int)), .int .i64 (3 + (x1.size : Int)), .int .i64 (12 + (L : Int)), .int .i64 (39 + (x1.size : Int) + (L : Int)), .int .i64 33, .int .i64 29, .int .i64 31, .int .i64 30, .int .i64 29, .int .i64 58, .int .i64 33, .int .i64 0, .int .i64 0] 3 (0, 0))) := hid Array.getElem?_push_size
          have hbC := hid (below_alloc hb4.out (.cells #[.int .i64 (1 + (x1.size : Int)), .int .i64 (3 + (x1.size : Int)), .int .i64 (12 + (L : Int)), .int .i64 (39 + (x1.size : Int) + (L : Int)), .int .i64 33, .int .i64 29, .int .i64 31, .int .i64 30, .int .i64 29, .int .i64 58, .int .i64 33, .int .i64 0, .int .i64 0] 3))
          have hsz : 0 ≤ (s.size : Int) := by omega
          go_upto_region 17 with fail
          generalize w4.alloc (.cells #[.int .i64 (1 + (x1.size : Int)), .int .i64 (3 + (x1.size : Int)), .int .i64 (12 + (L : Int)), .int .i64 (39 + (x1.size : Int) + (L : Int)), .int .i64 33, .int .i64 29, .int .i64 31, .int .i64 30, .int .i64 29, .int .i64 58, .int .i64 33, .int .i64 0, .int .i64 0] 3) = w5 at *
          have dj : w5.cell? ⟨w4.heap.size, 5, none⟩ = some (.int .i64 (29)) := (blk_cell hC.out 5).trans rfl
          clear hC hz
          go_wp2_with fail
          go_ret
          exact ⟨rfl, hbC.out⟩
        · have hz1 : (s.size : Int) = 6 + (31) := by rw [hz.out, hj]; rfl
          have hC : Hid ((w4.alloc (.cells #[.int .i64 (1 + (x1.size : Int)), .int .i64 (3 + (x1.size : Int)), .int .i64 (12 + (L : Int)), .int .i64 (39 + (x1.size : Int) + (L : Int)), .int .i64 33, .int .i64 29, .int .i64 31, .int .i64 30, .int .i64 29, .int .i64 58, .int .i64 33, .int .i64 0, .int .i64 0] 3)).heap[w4.heap.size]? = some (.cells #[.int .i64 (1 + (x1.size : Int)), .int .i64 (3 + (x1.size : Int)), .int .i64 (12 + (L : Int)), .int .i64 (39 + (x1.size : Int) + (L : Int)), .int .i64 33, .int .i64 29, .int .i64 31, .int .i64 30, .int .i64 29, .int .i64 58, .int .i64 33, .int .i64 0, .int .i64 0] 3 (0, 0))) := hid Array.getElem?_push_size
          have hbC := hid (below_alloc hb4.out (.cells #[.int .i64 (1 + (x1.size : Int)), .int .i64 (3 + (x1.size : Int)), .int .i64 (12 + (L : Int)), .int .i64 (39 + (x1.size : Int) + (L : Int)), .int .i64 33, .int .i64 29, .int .i64 31, .int .i64 30, .int .i64 29, .int .i64 58, .int .i64 33, .int .i64 0, .int .i64 0] 3))
          have hsz : 0 ≤ (s.size : Int) := by omega
          go_upto_region 17 with fail
          generalize w4.alloc (.cells #[.int .i64 (1 + (x1.size : Int)), .int .i64 (3 + (x1.size : Int)), .int .i64 (12 + (L : Int)), .int .i64 (39 + (x1.size : Int) + (L : Int)), .int .i64 33, .int .i64 29, .int .i64 31, .int .i64 30, .int .i64 29, .int .i64 58, .int .i64 33, .int .i64 0, .int .i64 0] 3) = w5 at *
          have dj : w5.cell? ⟨w4.heap.size, 6, none⟩ = some (.int .i64 (31)) := (blk_cell hC.out 6).trans rfl
          clear hC hz
          go_wp2_with fail
          go_ret
          exact ⟨rfl, hbC.out⟩
        · have hz1 : (s.size : Int) = 6 + (30) := by rw [hz.out, hj]; rfl
          have hC : Hid ((w4.alloc (.cells #[.int .i64 (1 + (x1.size : Int)), .int .i64 (3 + (x1.size : Int)), .int .i64 (12 + (L : Int)), .int .i64 (39 + (x1.size : Int) + (L : Int)), .int .i64 33, .int .i64 29, .int .i64 31, .int .i64 30, .int .i64 29, .int .i64 58, .int .i64 33, .int .i64 0, .int .i64 0] 3)).heap[w4.heap.size]? = some (.cells #[.int .i64 (1 + (x1.size : Int)), .int .i64 (3 + (x1.size : Int)), .int .i64 (12 + (L : Int)), .int .i64 (39 + (x1.size : Int) + (L : Int)), .int .i64 33, .int .i64 29, .int .i64 31, .int .i64 30, .int .i64 29, .int .i64 58, .int .i64 33, .int .i64 0, .int .i64 0] 3 (0, 0))) := hid Array.getElem?_push_size
          have hbC := hid (below_alloc hb4.out (.cells #[.int .i64 (1 + (x1.size : Int)), .int .i64 (3 + (x1.size : Int)), .int .i64 (12 + (L : Int)), .int .i64 (39 + (x1.size : Int) + (L : Int)), .int .i64 33, .int .i64 29, .int .i64 31, .int .i64 30, .int .i64 29, .int .i64 58, .int .i64 33, .int .i64 0, .int .i64 0] 3))
          have hsz : 0 ≤ (s.size : Int) := by omega
          go_upto_region 17 with fail
          generalize w4.alloc (.cells #[.int .i64 (1 + (x1.size : Int)), .int .i64 (3 + (x1.size : Int)), .int .i64 (12 + (L : Int)), .int .i64 (39 + (x1.size : Int) + (L : Int)), .int .i64 33, .int .i64 29, .int .i64 31, .int .i64 30, .int .i64 29, .int .i64 58, .int .i64 33, .int .i64 0, .int .i64 0] 3) = w5 at *
          have dj : w5.cell? ⟨w4.heap.size, 7, none⟩ = some (.int .i64 (30)) := (blk_cell hC.out 7).trans rfl
          clear hC hz
          go_wp2_with fail
          go_ret
          exact ⟨rfl, hbC.out⟩
        · have hz1 : (s.size : Int) = 6 + (29) := by rw [hz.out, hj]; rfl
          have hC : Hid ((w4.alloc (.cells #[.int .i64 (1 + (x1.size : Int)), .int .i64 (3 + (x1.size : Int)), .int .i64 (12 + (L : Int)), .int .i64 (39 + (x1.size : Int) + (L : Int)), .int .i64 33, .int .i64 29, .int .i64 31, .int .i64 30, .int .i64 29, .int .i64 58, .int .i64 33, .int .i64 0, .int .i64 0] 3)).heap[w4.heap.size]? = some (.cells #[.int .i64 (1 + (x1.size : Int)), .int .i64 (3 + (x1.size : Int)), .int .i64 (12 + (L : Int)), .int .i64 (39 + (x1.size : Int) + (L : Int)), .int .i64 33, .int .i64 29, .int .i64 31, .int .i64 30, .int .i64 29, .int .i64 58, .int .i64 33, .int .i64 0, .int .i64 0] 3 (0, 0))) := hid Array.getElem?_push_size
          have hbC := hid (below_alloc hb4.out (.cells #[.int .i64 (1 + (x1.size : Int)), .int .i64 (3 + (x1.size : Int)), .int .i64 (12 + (L : Int)), .int .i64 (39 + (x1.size : Int) + (L : Int)), .int .i64 33, .int .i64 29, .int .i64 31, .int .i64 30, .int .i64 29, .int .i64 58, .int .i64 33, .int .i64 0, .int .i64 0] 3))
          have hsz : 0 ≤ (s.size : Int) := by omega
          go_upto_region 17 with fail
          generalize w4.alloc (.cells #[.int .i64 (1 + (x1.size : Int)), .int .i64 (3 + (x1.size : Int)), .int .i64 (12 + (L : Int)), .int .i64 (39 + (x1.size : Int) + (L : Int)), .int .i64 33, .int .i64 29, .int .i64 31, .int .i64 30, .int .i64 29, .int .i64 58, .int .i64 33, .int .i64 0, .int .i64 0] 3) = w5 at *
          have dj : w5.cell? ⟨w4.heap.size, 8, none⟩ = some (.int .i64 (29)) := (blk_cell hC.out 8).trans rfl
          clear hC hz
          go_wp2_with fail
          go_ret
          exact ⟨rfl, hbC.out⟩
        · have hz1 : (s.size : Int) = 6 + (58) := by rw [hz.out, hj]; rfl
          have hC : Hid ((w4.alloc (.cells #[.int .i64 (1 + (x1.size : Int)), .int .i64 (3 + (x1.size : Int)), .int .i64 (12 + (L : Int)), .int .i64 (39 + (x1.size : Int) + (L : Int)), .int .i64 33, .int .i64 29, .int .i64 31, .int .i64 30, .int .i64 29, .int .i64 58, .int .i64 33, .int .i64 0, .int .i64 0] 3)).heap[w4.heap.size]? = some (.cells #[.int .i64 (1 + (x1.size : Int)), .int .i64 (3 + (x1.size : Int)), .int .i64 (12 + (L : Int)), .int .i64 (39 + (x1.size : Int) + (L : Int)), .int .i64 33, .int .i64 29, .int .i64 31, .int .i64 30, .int .i64 29, .int .i64 58, .int .i64 33, .int .i64 0, .int .i64 0] 3 (0, 0))) := hid Array.getElem?_push_size
          have hbC := hid (below_alloc hb4.out (.cells #[.int .i64 (1 + (x1.size : Int)), .int .i64 (3 + (x1.size : Int)), .int .i64 (12 + (L : Int)), .int .i64 (39 + (x1.size : Int) + (L : Int)), .int .i64 33, .int .i64 29, .int .i64 31, .int .i64 30, .int .i64 29, .int .i64 58, .int .i64 33, .int .i64 0, .int .i64 0] 3))
          have hsz : 0 ≤ (s.size : Int) := by omega
          go_upto_region 17 with fail
          generalize w4.alloc (.cells #[.int .i64 (1 + (x1.size : Int)), .int .i64 (3 + (x1.size : Int)), .int .i64 (12 + (L : Int)), .int .i64 (39 + (x1.size : Int) + (L : Int)), .int .i64 33, .int .i64 29, .int .i64 31, .int .i64 30, .int .i64 29, .int .i64 58, .int .i64 33, .int .i64 0, .int .i64 0] 3) = w5 at *
          have dj : w5.cell? ⟨w4.heap.size, 9, none⟩ = some (.int .i64 (58)) := (blk_cell hC.out 9).trans rfl
          clear hC hz
          go_wp2_with fail
          go_ret
          exact ⟨rfl, hbC.out⟩
        · have hz1 : (s.size : Int) = 6 + (33) := by rw [hz.out, hj]; rfl
          have hC : Hid ((w4.alloc (.cells #[.int .i64 (1 + (x1.size : Int)), .int .i64 (3 + (x1.size : Int)), .int .i64 (12 + (L : Int)), .int .i64 (39 + (x1.size : Int) + (L : Int)), .int .i64 33, .int .i64 29, .int .i64 31, .int .i64 30, .int .i64 29, .int .i64 58, .int .i64 33, .int .i64 0, .int .i64 0] 3)).heap[w4.heap.size]? = some (.cells #[.int .i64 (1 + (x1.size : Int)), .int .i64 (3 + (x1.size : Int)), .int .i64 (12 + (L : Int)), .int .i64 (39 + (x1.size : Int) + (L : Int)), .int .i64 33, .int .i64 29, .int .i64 31, .int .i64 30, .int .i64 29, .int .i64 58, .int .i64 33, .int .i64 0, .int .i64 0] 3 (0, 0))) := hid Array.getElem?_push_size
          have hbC := hid (below_alloc hb4.out (.cells #[.int .i64 (1 + (x1.size : Int)), .int .i64 (3 + (x1.size : Int)), .int .i64 (12 + (L : Int)), .int .i64 (39 + (x1.size : Int) + (L : Int)), .int .i64 33, .int .i64 29, .int .i64 31, .int .i64 30, .int .i64 29, .int .i64 58, .int .i64 33, .int .i64 0, .int .i64 0] 3))
          have hsz : 0 ≤ (s.size : Int) := by omega
          go_upto_region 17 with fail
          generalize w4.alloc (.cells #[.int .i64 (1 + (x1.size : Int)), .int .i64 (3 + (x1.size : Int)), .int .i64 (12 + (L : Int)), .int .i64 (39 + (x1.size : Int) + (L : Int)), .int .i64 33, .int .i64 29, .int .i64 31, .int .i64 30, .int .i64 29, .int .i64 58, .int .i64 33, .int .i64 0, .int .i64 0] 3) = w5 at *
          have dj : w5.cell? ⟨w4.heap.size, 10, none⟩ = some (.int .i64 (33)) := (blk_cell hC.out 10).trans rfl
          clear hC hz
          go_wp2_with fail
          go_ret
          exact ⟨rfl, hbC.out⟩
        · have hz1 : (s.size : Int) = 6 + (0) := by rw [hz.out, hj]; rfl
          have hC : Hid ((w4.alloc (.cells #[.int .i64 (1 + (x1.size : Int)), .int .i64 (3 + (x1.size : Int)), .int .i64 (12 + (L : Int)), .int .i64 (39 + (x1.size : Int) + (L : Int)), .int .i64 33, .int .i64 29, .int .i64 31, .int .i64 30, .int .i64 29, .int .i64 58, .int .i64 33, .int .i64 0, .int .i64 0] 3)).heap[w4.heap.size]? = some (.cells #[.int .i64 (1 + (x1.size : Int)), .int .i64 (3 + (x1.size : Int)), .int .i64 (12 + (L : Int)), .int .i64 (39 + (x1.size : Int) + (L : Int)), .int .i64 33, .int .i64 29, .int .i64 31, .int .i64 30, .int .i64 29, .int .i64 58, .int .i64 33, .int .i64 0, .int .i64 0] 3 (0, 0))) := hid Array.getElem?_push_size
          have hbC := hid (below_alloc hb4.out (.cells #[.int .i64 (1 + (x1.size : Int)), .int .i64 (3 + (x1.size : Int)), .int .i64 (12 + (L : Int)), .int .i64 (39 + (x1.size : Int) + (L : Int)), .int .i64 33, .int .i64 29, .int .i64 31, .int .i64 30, .int .i64 29, .int .i64 58, .int .i64 33, .int .i64 0, .int .i64 0] 3))
          have hsz : 0 ≤ (s.size : Int) := by omega
          go_upto_region 17 with fail
          generalize w4.alloc (.cells #[.int .i64 (1 + (x1.size : Int)), .int .i64 (3 + (x1.size : Int)), .int .i64 (12 + (L : Int)), .int .i64 (39 + (x1.size : Int) + (L : Int)), .int .i64 33, .int .i64 29, .int .i64 31, .int .i64 30, .int .i64 29, .int .i64 58, .int .i64 33, .int .i64 0, .int .i64 0] 3) = w5 at *
          have dj : w5.cell? ⟨w4.heap.size, 11, none⟩ = some (.int .i64 (0)) := (blk_cell hC.out 11).trans rfl
          clear hC hz
          go_wp2_with fail
          go_ret
          exact ⟨rfl, hbC.out⟩
        · have hz1 : (s.size : Int) = 6 + (0) := by rw [hz.out, hj]; rfl
          have hC : Hid ((w4.alloc (.cells #[.int .i64 (1 + (x1.size : Int)), .int .i64 (3 + (x1.size : Int)), .int .i64 (12 + (L : Int)), .int .i64 (39 + (x1.size : Int) + (L : Int)), .int .i64 33, .int .i64 29, .int .i64 31, .int .i64 30, .int .i64 29, .int .i64 58, .int .i64 33, .int .i64 0, .int .i64 0] 3)).heap[w4.heap.size]? = some (.cells #[.int .i64 (1 + (x1.size : Int)), .int .i64 (3 + (x1.size : Int)), .int .i64 (12 + (L : Int)), .int .i64 (39 + (x1.size : Int) + (L : Int)), .int .i64 33, .int .i64 29, .int .i64 31, .int .i64 30, .int .i64 29, .int .i64 58, .int .i64 33, .int .i64 0, .int .i64 0] 3 (0, 0))) := hid Array.getElem?_push_size
          have hbC := hid (below_alloc hb4.out (.cells #[.int .i64 (1 + (x1.size : Int)), .int .i64 (3 + (x1.size : Int)), .int .i64 (12 + (L : Int)), .int .i64 (39 + (x1.size : Int) + (L : Int)), .int .i64 33, .int .i64 29, .int .i64 31, .int .i64 30, .int .i64 29, .int .i64 58, .int .i64 33, .int .i64 0, .int .i64 0] 3))
          have hsz : 0 ≤ (s.size : Int) := by omega
          go_upto_region 17 with fail
          generalize w4.alloc (.cells #[.int .i64 (1 + (x1.size : Int)), .int .i64 (3 + (x1.size : Int)), .int .i64 (12 + (L : Int)), .int .i64 (39 + (x1.size : Int) + (L : Int)), .int .i64 33, .int .i64 29, .int .i64 31, .int .i64 30, .int .i64 29, .int .i64 58, .int .i64 33, .int .i64 0, .int .i64 0] 3) = w5 at *
          have dj : w5.cell? ⟨w4.heap.size, 12, none⟩ = some (.int .i64 (0)) := (blk_cell hC.out 12).trans rfl
          clear hC hz
          go_wp2_with fail
          go_ret
          exact ⟨rfl, hbC.out⟩

theorem ProtoSizes_walk (id : Int) (x0 : Int) (x1 : ByteArray) (x2 : ByteArray) (x3 : ByteArray) (x4 : Int) (x5 : Int) (x6 : Int) (x7 : Int) (x8 : Int) (x9 : Int) (x10 : Bool) (x11 : Int) (x12 : Int) (W : World) (w0 : (Lit.int IntKind.i64 id).wf = true) (w1_0 : (Lit.int IntKind.i64 x0).wf = true) (w1_1 : x1.size ≤ 140737488351232) (w1_2 : x2.size ≤ 140737488351232) (w1_3 : x3.size ≤ 140737488351232) (w1_4 : (Lit.int IntKind.i64 x4).wf = true) (w1_5 : (Lit.int IntKind.i64 x5).wf = true) (w1_6 : (Lit.int IntKind.i64 x6).wf = true) (w1_7 : (Lit.int IntKind.i64 x7).wf = true) (w1_8 : (Lit.int IntKind.i64 x8).wf = true) (w1_9 : (Lit.int IntKind.i32 x9).wf = true) (w1_11 : (Lit.int IntKind.i64 x11).wf = true) (w1_12 : (Lit.int IntKind.i64 x12).wf = true) :
    Calls Try.prog 4 #[.int .i64 id, .agg #[.int .i64 x0, .string x1, .string x2, .string x3, .int .i64 x4, .int .i64 x5, .int .i64 x6, .int .i64 x7, .int .i64 x8, .int .i32 x9, .bool x10, .int .i64 x11, .int .i64 x12]] W fun r W' => r = .returned (.bool true) ∧ Below W.heap.size W W' := by
  have hw := (bounds_i64 w1_0).1
  have hr := Int.lt_of_le_of_lt (bounds_i64 w1_6).2 (by omega : (9223372036854775807 : Int) < 9223372036854775808)
  obtain ⟨v, op, l, hM, hS, hop, hz⟩ := asked id x0 x1 x2 x3 x4 x5 x6 x7 x8 x9 x10 x11 x12 hw w1_1 w1_2 w1_3
  by_cases hok : okL l = true ∧ 0 ≤ id ∧ id < 4294967296
  · refine sizes_walk id x0 x1 x2 x3 x4 x5 x6 x7 x8 x9 x10 x11 x12 v _ 0 (placeOf x0) _ W hw w1_1 hr (place_le x0) (place_hs x0) hM (hS.yes hok.1 hok.2) rfl (Or.inr ⟨rfl, ?_⟩)
    rw [ByteArray.size_append, hdr_size, txL_size, ← hz hok.1]
    omega
  · exact sizes_walk id x0 x1 x2 x3 x4 x5 x6 x7 x8 x9 x10 x11 x12 v _ 1 (placeOf x0) _ W hw w1_1 hr (place_le x0) (place_hs x0) hM (hS.no hok) rfl (Or.inl ⟨rfl, rfl⟩)
end Go.Proofs.Ytfbcidfbgebbhaa.Pure
