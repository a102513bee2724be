/-
  NodeHangs, walked.
-/
import Derived.Test.YtnghbfegijnolaaHandNodeSizes
import Derived.Test.YtnghbfegijnolaaB3
namespace Go.Proofs.Ytnghbfegijnolaa.A
set_option linter.unusedVariables false
set_option linter.unusedSimpArgs false
open Go.RowKit Go.Proofs.YtnghbfegijnolaaW.PrintWords Go.Proofs.YtnghbfegijnolaaW.PrintLast Go.Proofs.YtnghbfegijnolaaW.PrintMore
open Go.Lib (hid)
theorem At.kid {w : World} {x : Nd} {b : Bool} {A1 A2 A3 : Option Addr} {n1 n2 n3 c1 c2 c3 : Nat} (H : At w (.agg #[.bool b, .slice A1 n1 c1, .slice A2 n2 c2, .slice A3 n3 c3]) x) (i : Nat) (hi : i < x.kids.length) : ∃ ad, A3 = some ad ∧ w.cell? (ad.add i) = some (.int .i64 (x.kids.getD i 0)) := by
  obtain ⟨B1, d1, B2, d2, B3, d3, e, _, _, ⟨h1, l1⟩⟩ := H
  have e1 : A3 = B3 := by
    have h := congrArg (fun v => match v with | Value.agg cs => (match cs[3]? with | some (Value.slice a _ _) => a | _ => none) | _ => none) e
    exact h
  subst e1
  exact C_one h1 0 i hi
set_option maxHeartbeats 1000000 in
set_option maxRecDepth 100000 in
theorem NodeHangs_walk (ps : List (Int × ByteArray)) (A0 : Option Addr) (c0 : Nat) (key : Int) (w : World) (H : (Kd.pair (Kd.int .u64) Kd.string).C w A0 ps.length ps) :
    Calls Try.prog 3 #[.slice A0 ps.length c0, .int .u64 key] w fun e w' => e = .returned (.bool true) ∧ Below w.heap.size w w' := by
  have HB := hid (fun W (hb : Below w.heap.size w W) => branch_walk ps A0 c0 W (Kd.C_below H hb))
  have HE := hid (fun W => examples_walk W)
  have ob := branch_ok ps
  generalize branchF ps = b at *
  clear H
  have b1 := ob.few
  have b2 := ob.kids
  have HF := hid (fun u W (h : At W u b) => find_walk b u key W h (by omega))
  rw [find_branch b key ob.leaf] at HF
  have HH := hid (fun u W (h : At W u b) => hang_walk b u (atF b key : Nat) key 600 W h (by omega) (by omega))
  have HS := hid (fun v u W (h : At W v b) (h' : At W u b) => nodes_walk b b v u W h h' (by omega) (by rw [ob.vals]; decide) (by omega))
  simp only [same_refl] at HS
  have HR := hid (fun v W h => ref_walk b v W h)
  have hl := hid (at_le b key)
  have hst := hid (⟨fun h => hung ob (not_stands ob.rise h) 600, fun h => h⟩ : (¬ standsB b key = true → Hung b (hangF b (atF b key : Nat) key 600) key (atF b key) 600) ∧ (standsB b key = true → standsB b key = true))
  have HK := hid (fun kk u W (h : At W u b) => find_walk b u kk W h (by omega))
  have HK2 : Hid (∀ kk u W, At W u b → Calls Try.prog 12 #[u, .int .u64 kk] W fun e w' => e = .returned (.tuple #[.int .i64 (atF b kk : Nat), .bool true]) ∧ Below W.heap.size W w') := hid (fun kk u W h => by have := HK.out kk u W h; rw [find_branch b kk ob.leaf] at this; exact this)
  clear HK
  obtain ⟨st, hs0⟩ : ∃ st, st = standsB b key := ⟨_, rfl⟩
  rw [← hs0] at hst
  have hs1 : (decide (0 < atF b key) && decide (b.keys.getD (atF b key - 1) 0 = key)) = st := by rw [hs0]; rfl
  generalize atF b key = p at *
  replace hs1 := hid hs1
  have b1' := hid b1
  have b2' := hid b2
  clear b1 b2 hs0 ob
  go_enter Try.func3, Try.ntmps3
  (try dsimp only [List.append])
  go_upto_region 4 with (first | ((with_reducible refine Calls.mono (HE.out _) ?_); rintro r w1 ⟨rfl, hB⟩; replace hB := hid hB))
  clear HE
  go_upto_region 5 with (first | ((with_reducible refine Calls.mono (HB.out _ hB.out) ?_); rintro r w2 ⟨v0, rfl, q0, hbb⟩; obtain ⟨A1, Ac1, A2, Ac2, A3, Ac3, rfl, q1, q2, q3⟩ := q0; have hb := hid (Boxed.new (show At w2 (.agg #[.bool b.leaf, .slice A1 b.keys.length Ac1, .slice A2 b.vals.length Ac2, .slice A3 b.kids.length Ac3]) b from ⟨A1, Ac1, A2, Ac2, A3, Ac3, rfl, q1, q2, q3⟩)); clear q1 q2 q3; replace hB := hid (below_then hB.out hB.out.size hbb); skip; replace hB := hid (below_alloc hB.out (.cells #[.bool b.leaf, .slice A1 b.keys.length Ac1, .slice A2 b.vals.length Ac2, .slice A3 b.kids.length Ac3] 29)); clear hbb))
  change Code.wp _ _ _ _ (w2.alloc (.cells #[.bool b.leaf, .slice A1 b.keys.length Ac1, .slice A2 b.vals.length Ac2, .slice A3 b.kids.length Ac3] 29))
  generalize w2.alloc (.cells #[.bool b.leaf, .slice A1 b.keys.length Ac1, .slice A2 b.vals.length Ac2, .slice A3 b.kids.length Ac3] 29) = w3 at *
  have lhb := hid hb.out.lt
  generalize w2.heap.size = gb at *
  clear HB
  have d0 : w3.cell? ⟨gb, 0, none⟩ = some (.bool b.leaf) := (blk_cell hb.out.box 0).trans rfl
  have d1 : w3.cell? ⟨gb, 1, none⟩ = some (.slice A1 b.keys.length Ac1) := (blk_cell hb.out.box 1).trans rfl
  have d2 : w3.cell? ⟨gb, 2, none⟩ = some (.slice A2 b.vals.length Ac2) := (blk_cell hb.out.box 2).trans rfl
  have d3 : w3.cell? ⟨gb, 3, none⟩ = some (.slice A3 b.kids.length Ac3) := (blk_cell hb.out.box 3).trans rfl
  go_upto_region 6 with (first | ((with_reducible refine Calls.mono (HF.out _ _ hb.out.at_) ?_); rintro r w4 ⟨rfl, hbb⟩; replace hb := hid (hb.out.below hbb); replace hB := hid (below_then hB.out hB.out.size hbb); clear hbb))
  clear d0 d1 d2 d3
  have d0 : w4.cell? ⟨gb, 0, none⟩ = some (.bool b.leaf) := (blk_cell hb.out.box 0).trans rfl
  have d1 : w4.cell? ⟨gb, 1, none⟩ = some (.slice A1 b.keys.length Ac1) := (blk_cell hb.out.box 1).trans rfl
  have d2 : w4.cell? ⟨gb, 2, none⟩ = some (.slice A2 b.vals.length Ac2) := (blk_cell hb.out.box 2).trans rfl
  have d3 : w4.cell? ⟨gb, 3, none⟩ = some (.slice A3 b.kids.length Ac3) := (blk_cell hb.out.box 3).trans rfl
  have g1 : ¬ ((p : Int) < 0) := by omega
  have g2 : ¬ ((b.keys.length : Int) < (p : Int)) := by have := hl.out; omega
  go_upto_region 8 with fail
  clear g1 g2
  go_cut [53] (fun s53 wx => s53 = .bool st ∧ w4 = wx)
  case first =>
    cases p with
    | zero =>
      have hst2 : st = false := by rw [← hs1.out]; simp
      subst hst2
      clear hs1 hst hl HF HH HS HR HK2
      go_wp2_with fail
      go_meet
      exact ⟨rfl, rfl⟩
    | succ q =>
      obtain ⟨ak, hA1, hck⟩ := hb.out.at_.key q (by have := hl.out; omega)
      subst hA1
      have e1 := wr_b q (by have := hl.out; have := b1'.out; omega)
      have e2 := wr_c q (by have := hl.out; have := b1'.out; omega)
      have g0 : (0 : Int) < (q : Int) + 1 := by omega
      have g3 : (q : Int) < (b.keys.length : Int) := by have := hl.out; omega
      have hs2 := hid (show (b.keys.getD q 0 == key) = st by rw [← hs1.out, Nat.add_sub_cancel, Bool.eq_iff_iff]; simp)
      generalize b.keys.getD q 0 = kq at *
      clear hs1 hst hl HF HH HS HR HK2
      go_wp2_with fail
      go_meet
      exact ⟨by rw [hs2.out], rfl⟩
  case rest =>
    obtain ⟨rfl, rfl⟩ := hcut
    clear hs1 HF
    cases st with
    | true =>
      clear hst HH HS HR HK2 hl
      go_wp2_with fail
      go_ret
      exact ⟨rfl, hB.out⟩
    | false =>
      have hq := hid (hst.out.1 (by simp))
      obtain ⟨p1, hp1⟩ : ∃ p1, p1 = p + 1 := ⟨_, rfl⟩
      have hp1' := hid hp1
      clear hst
      go_upto_region 10 with fail
      generalize hangF b (p : Int) key 600 = m at *
      have em1 := hid hq.out.k1
      have em2 := hid hq.out.k2
      have HF2 := hid (fun u W (h : At W u m) => find_walk m u key W h (by have := em1.out; have := b1'.out; omega))
      rw [find_branch m key hq.out.k0, hq.out.k4, ← hp1] at HF2
      clear hp1
      have HU : Hid (∀ u W, At W u m → Calls Try.prog 15 #[u, .int .i64 (p : Int)] W fun e w' => ∃ v', e = .returned v' ∧ At w' v' b ∧ Below W.heap.size W w') := hid (fun u W h => by have z := unhang_walk m u (p : Int) W h (by have := em1.out; have := b1'.out; omega) (by rw [hq.out.k3]; decide) (by have := em2.out; have := b1'.out; have := b2'.out; omega); rw [hq.out.k5] at z; exact z)
      have HM2 : Hid (∀ kk u W, At W u m → Calls Try.prog 12 #[u, .int .u64 kk] W fun e w' => e = .returned (.tuple #[.int .i64 (atF m kk : Nat), .bool true]) ∧ Below W.heap.size W w') := hid (fun kk u W h => by have z := find_walk m u kk W h (by have := em1.out; have := b1'.out; omega); rw [find_branch m kk hq.out.k0] at z; exact z)
      go_upto_region 11 with (first | ((with_reducible refine Calls.mono (HH.out _ _ hb.out.at_) ?_); rintro r w5 ⟨v0, rfl, q0, hbb⟩; obtain ⟨B1, Bc1, B2, Bc2, B3, Bc3, rfl, q1, q2, q3⟩ := q0; have hm := hid (Boxed.new (show At w5 (.agg #[.bool m.leaf, .slice B1 m.keys.length Bc1, .slice B2 m.vals.length Bc2, .slice B3 m.kids.length Bc3]) m from ⟨B1, Bc1, B2, Bc2, B3, Bc3, rfl, q1, q2, q3⟩)); clear q1 q2 q3; replace hb := hid (hb.out.below hbb); replace hB := hid (below_then hB.out hB.out.size hbb); skip; replace hb := hid (hb.out.below (below_alloc (Below.refl _ w5) (.cells #[.bool m.leaf, .slice B1 m.keys.length Bc1, .slice B2 m.vals.length Bc2, .slice B3 m.kids.length Bc3] 29))); replace hB := hid (below_alloc hB.out (.cells #[.bool m.leaf, .slice B1 m.keys.length Bc1, .slice B2 m.vals.length Bc2, .slice B3 m.kids.length Bc3] 29)); clear hbb))
      change Code.wp _ _ _ _ (w5.alloc (.cells #[.bool m.leaf, .slice B1 m.keys.length Bc1, .slice B2 m.vals.length Bc2, .slice B3 m.kids.length Bc3] 29))
      generalize w5.alloc (.cells #[.bool m.leaf, .slice B1 m.keys.length Bc1, .slice B2 m.vals.length Bc2, .slice B3 m.kids.length Bc3] 29) = w6 at *
      have lhm := hid hm.out.lt
      generalize w5.heap.size = gm at *
      clear HH d0 d1 d2 d3
      have d0 : w6.cell? ⟨gb, 0, none⟩ = some (.bool b.leaf) := (blk_cell hb.out.box 0).trans rfl
      have d1 : w6.cell? ⟨gb, 1, none⟩ = some (.slice A1 b.keys.length Ac1) := (blk_cell hb.out.box 1).trans rfl
      have d2 : w6.cell? ⟨gb, 2, none⟩ = some (.slice A2 b.vals.length Ac2) := (blk_cell hb.out.box 2).trans rfl
      have d3 : w6.cell? ⟨gb, 3, none⟩ = some (.slice A3 b.kids.length Ac3) := (blk_cell hb.out.box 3).trans rfl
      have f0 : w6.cell? ⟨gm, 0, none⟩ = some (.bool m.leaf) := (blk_cell hm.out.box 0).trans rfl
      have f1 : w6.cell? ⟨gm, 1, none⟩ = some (.slice B1 m.keys.length Bc1) := (blk_cell hm.out.box 1).trans rfl
      have f2 : w6.cell? ⟨gm, 2, none⟩ = some (.slice B2 m.vals.length Bc2) := (blk_cell hm.out.box 2).trans rfl
      have f3 : w6.cell? ⟨gm, 3, none⟩ = some (.slice B3 m.kids.length Bc3) := (blk_cell hm.out.box 3).trans rfl
      have g1 : (m.keys.length : Int) = wrap64 ((b.keys.length : Int) + 1) := by have h1 := em1.out; have h2 := b1'.out; rw [wr64 _ (by omega) (by omega)]; omega
      have g2 : (m.kids.length : Int) = wrap64 ((b.kids.length : Int) + 1) := by have h1 := em2.out; have h2 := b1'.out; have h3 := b2'.out; clear g1; rw [wr64 _ (by omega) (by omega)]; omega
      go_upto_region 13 with fail
      clear g1 g2
      go_upto_region 14 with (first | ((with_reducible refine Calls.mono (HF2.out _ _ hm.out.at_) ?_); rintro r w7 ⟨rfl, hbb⟩; replace hb := hid (hb.out.below hbb); replace hm := hid (hm.out.below hbb); replace hB := hid (below_then hB.out hB.out.size hbb); clear hbb))
      clear HF2 d0 d1 d2 d3 f0 f1 f2 f3
      have d0 : w7.cell? ⟨gb, 0, none⟩ = some (.bool b.leaf) := (blk_cell hb.out.box 0).trans rfl
      have d1 : w7.cell? ⟨gb, 1, none⟩ = some (.slice A1 b.keys.length Ac1) := (blk_cell hb.out.box 1).trans rfl
      have d2 : w7.cell? ⟨gb, 2, none⟩ = some (.slice A2 b.vals.length Ac2) := (blk_cell hb.out.box 2).trans rfl
      have d3 : w7.cell? ⟨gb, 3, none⟩ = some (.slice A3 b.kids.length Ac3) := (blk_cell hb.out.box 3).trans rfl
      have f0 : w7.cell? ⟨gm, 0, none⟩ = some (.bool m.leaf) := (blk_cell hm.out.box 0).trans rfl
      have f1 : w7.cell? ⟨gm, 1, none⟩ = some (.slice B1 m.keys.length Bc1) := (blk_cell hm.out.box 1).trans rfl
      have f2 : w7.cell? ⟨gm, 2, none⟩ = some (.slice B2 m.vals.length Bc2) := (blk_cell hm.out.box 2).trans rfl
      have f3 : w7.cell? ⟨gm, 3, none⟩ = some (.slice B3 m.kids.length Bc3) := (blk_cell hm.out.box 3).trans rfl
      refine start_ (n := 7) (S := fun w' => Below w7.heap.size w7 w') (ds := []) #[false, false, false, false, false, false, false] (by kernel_rfl) rfl rfl (below_drew (Below.refl _ _)) (fun hHeld => ?_)
      refine take_ (i := 0) (N := some 83) (v := ?_) (a' := ?_) #[true, false, false, false, false, false, false] rfl rfl (by kernel_rfl) (fun _ _ _ h => h) (Or.inl ⟨by rfl, ?_⟩) hHeld ?_ ?_
      rotate_left
      · rintro w' hb'
        have dd0 := pw_cell_below hb' f0
        have dd1 := pw_cell_below hb' f1
        have dd2 := pw_cell_below hb' f2
        have dd3 := pw_cell_below hb' f3
        go_simp
        with_reducible rfl
      rotate_left
      · simp only [Act.put, List.setIfInBounds_toArray, List.set_cons_zero, List.set_cons_succ, i64_w, i32_w]
        rfl
      refine pure_ (i := 1) (N := some 84) (v := ?_) (a' := ?_) #[true, true, false, false, false, false, false] rfl rfl (by kernel_rfl) (fun _ _ _ h => h) (Or.inl ⟨by rfl, ?_⟩) ?_ ?_
      rotate_left
      · intro w'
        go_simp
        with_reducible rfl
      rotate_left
      · simp only [Act.put, List.setIfInBounds_toArray, List.set_cons_zero, List.set_cons_succ, i64_w, i32_w]
        rfl
      refine take_ (i := 3) (N := some 86) (v := ?_) (a' := ?_) #[true, true, false, true, false, false, false] rfl rfl (by kernel_rfl) (fun _ _ _ h => h) (Or.inl ⟨by rfl, ?_⟩) hHeld ?_ ?_
      rotate_left
      · rintro w' hb'
        have dd0 := pw_cell_below hb' d0
        have dd1 := pw_cell_below hb' d1
        have dd2 := pw_cell_below hb' d2
        have dd3 := pw_cell_below hb' d3
        go_simp
        with_reducible rfl
      rotate_left
      · simp only [Act.put, List.setIfInBounds_toArray, List.set_cons_zero, List.set_cons_succ, i64_w, i32_w]
        rfl
      refine one_ (i := 2) (N := some 85) #[true, true, true, true, false, false, false] rfl rfl (by kernel_rfl) (by decide) (fun K hK => ?_)
      refine goes_ Try.func15 (by kernel_rfl) rfl #[(.agg #[.bool m.leaf, .slice B1 m.keys.length Bc1, .slice B2 m.vals.length Bc2, .slice B3 m.kids.length Bc3]), .int .i64 (p : Int)] (by rfl) rfl rfl (by (try simp only [List.map_toArray, List.map_cons, List.map_nil]); first | done | rfl) ?_
      refine (HU.out _ _ (hm.out.below (below_drew (Below.refl _ _))).at_).mono ?_
      rintro r x1 ⟨vu, rfl, qu, qz⟩
      replace qu := hid qu
      have sx1 := below_then (below_drew (Below.refl _ _)) (Nat.le_refl _) qz
      clear qz
      refine ⟨_, rfl, ?_⟩
      refine hK.out _ _ sx1 (fun hHeld => ?_)
      clear hK K
      refine norm_ (a' := ?_) ?_ ?_
      rotate_left
      · show Act.put _ (some 85) _ = _
        simp only [Act.put, List.setIfInBounds_toArray, List.set_cons_zero, List.set_cons_succ, i64_w, i32_w]
        rfl
      refine one_ (i := 4) (N := some 87) #[true, true, true, true, true, false, false] rfl rfl (by kernel_rfl) (by decide) (fun K hK => ?_)
      refine goes_ Try.func16 (by kernel_rfl) rfl #[(.agg #[.bool b.leaf, .slice A1 b.keys.length Ac1, .slice A2 b.vals.length Ac2, .slice A3 b.kids.length Ac3])] (by rfl) rfl rfl (by (try simp only [List.map_toArray, List.map_cons, List.map_nil]); first | done | rfl) ?_
      refine (HR.out _ _ (hb.out.below sx1).at_).mono ?_
      rintro r x2 ⟨vr, rfl, qr, qz⟩
      replace qr := hid qr
      replace qu := hid (qu.out.below qz)
      have sx2 := below_then sx1 sx1.size qz
      clear qz
      refine ⟨_, rfl, ?_⟩
      refine hK.out _ _ sx2 (fun hHeld => ?_)
      clear hK K
      refine norm_ (a' := ?_) ?_ ?_
      rotate_left
      · show Act.put _ (some 87) _ = _
        simp only [Act.put, List.setIfInBounds_toArray, List.set_cons_zero, List.set_cons_succ, i64_w, i32_w]
        rfl
      refine one_ (i := 5) (N := some 88) #[true, true, true, true, true, true, false] rfl rfl (by kernel_rfl) (by decide) (fun K hK => ?_)
      refine goes_ Try.func14 (by kernel_rfl) rfl #[vu, vr] (by rfl) rfl rfl (by (try simp only [List.map_toArray, List.map_cons, List.map_nil]); first | done | rfl) ?_
      refine (HS.out _ _ _ qu.out qr.out).mono ?_
      rintro r x3 ⟨rfl, qz⟩
      replace qu := hid (qu.out.below qz)
      replace qr := hid (qr.out.below qz)
      have sx3 := below_then sx2 sx2.size qz
      clear qz
      refine ⟨_, rfl, ?_⟩
      refine hK.out _ _ sx3 (fun hHeld => ?_)
      clear hK K
      refine norm_ (a' := ?_) ?_ ?_
      rotate_left
      · show Act.put _ (some 88) _ = _
        simp only [Act.put, List.setIfInBounds_toArray, List.set_cons_zero, List.set_cons_succ, i64_w, i32_w]
        rfl
      refine pure_ (i := 6) (N := some 12) (v := ?_) (a' := ?_) #[true, true, true, true, true, true, true] rfl rfl (by kernel_rfl) (fun _ _ _ h => h) (Or.inl ⟨by rfl, ?_⟩) ?_ ?_
      rotate_left
      · intro w'
        go_simp
        with_reducible rfl
      rotate_left
      · simp only [Act.put, List.setIfInBounds_toArray, List.set_cons_zero, List.set_cons_succ, i64_w, i32_w]
        rfl
      refine done_ (by kernel_rfl) ?_
      replace hb := hid (hb.out.below sx3)
      replace hm := hid (hm.out.below sx3)
      replace hB := hid (below_then hB.out hB.out.size sx3)
      clear hHeld sx1 sx2 sx3 qu qr
      clear d0 d1 d2 d3
      clear f0 f1 f2 f3
      clear HU HR HS
      go_wp2_with fail
      go_loopg [13] b.keys.length (fun g v13 wr => ∃ k : Nat, v13 = .int .i64 (k : Int) ∧ k + g = b.keys.length ∧ Hid (Boxed wr gb #[.bool b.leaf, .slice A1 b.keys.length Ac1, .slice A2 b.vals.length Ac2, .slice A3 b.kids.length Ac3] b) ∧ Hid (Boxed wr gm #[.bool m.leaf, .slice B1 m.keys.length Bc1, .slice B2 m.vals.length Bc2, .slice B3 m.kids.length Bc3] m) ∧ Hid (Below w.heap.size w wr))
      case atStart => exact ⟨0, rfl, by omega, hb, hm, hB⟩
      case round =>
        clear hb hm hB
        obtain ⟨k, rfl, hk, hb, hm, hB⟩ := hrel
        by_cases hlt : k < b.keys.length
        · cases gk with
          | zero => omega
          | succ g =>
            have a1 : (k : Int) < (b.keys.length : Int) := by omega
            have d0 : wr.cell? ⟨gb, 0, none⟩ = some (.bool b.leaf) := (blk_cell hb.out.box 0).trans rfl
            have d1 : wr.cell? ⟨gb, 1, none⟩ = some (.slice A1 b.keys.length Ac1) := (blk_cell hb.out.box 1).trans rfl
            have d2 : wr.cell? ⟨gb, 2, none⟩ = some (.slice A2 b.vals.length Ac2) := (blk_cell hb.out.box 2).trans rfl
            have d3 : wr.cell? ⟨gb, 3, none⟩ = some (.slice A3 b.kids.length Ac3) := (blk_cell hb.out.box 3).trans rfl
            have f0 : wr.cell? ⟨gm, 0, none⟩ = some (.bool m.leaf) := (blk_cell hm.out.box 0).trans rfl
            have f1 : wr.cell? ⟨gm, 1, none⟩ = some (.slice B1 m.keys.length Bc1) := (blk_cell hm.out.box 1).trans rfl
            have f2 : wr.cell? ⟨gm, 2, none⟩ = some (.slice B2 m.vals.length Bc2) := (blk_cell hm.out.box 2).trans rfl
            have f3 : wr.cell? ⟨gm, 3, none⟩ = some (.slice B3 m.kids.length Bc3) := (blk_cell hm.out.box 3).trans rfl
            go_upto_region 18 with fail
            clear a1
            obtain ⟨ak, hA1, hck⟩ := hb.out.at_.key k hlt
            subst hA1
            obtain ⟨h71, h72, h73⟩ := hq.out.k7 k hlt
            generalize b.keys.getD k 0 = kk at *
            have HA := hid (HK2.out kk)
            have HA2 := hid (HM2.out kk)
            generalize atF b kk = ia at *
            generalize atF m kk = im at *
            clear d0 d1 d2 d3 f0 f1 f2 f3
            have d0 : wr.cell? ⟨gb, 0, none⟩ = some (.bool b.leaf) := (blk_cell hb.out.box 0).trans rfl
            have d1 : wr.cell? ⟨gb, 1, none⟩ = some (.slice (some ak) b.keys.length Ac1) := (blk_cell hb.out.box 1).trans rfl
            have d2 : wr.cell? ⟨gb, 2, none⟩ = some (.slice A2 b.vals.length Ac2) := (blk_cell hb.out.box 2).trans rfl
            have d3 : wr.cell? ⟨gb, 3, none⟩ = some (.slice A3 b.kids.length Ac3) := (blk_cell hb.out.box 3).trans rfl
            have f0 : wr.cell? ⟨gm, 0, none⟩ = some (.bool m.leaf) := (blk_cell hm.out.box 0).trans rfl
            have f1 : wr.cell? ⟨gm, 1, none⟩ = some (.slice B1 m.keys.length Bc1) := (blk_cell hm.out.box 1).trans rfl
            have f2 : wr.cell? ⟨gm, 2, none⟩ = some (.slice B2 m.vals.length Bc2) := (blk_cell hm.out.box 2).trans rfl
            have f3 : wr.cell? ⟨gm, 3, none⟩ = some (.slice B3 m.kids.length Bc3) := (blk_cell hm.out.box 3).trans rfl
            refine start_ (n := 12) (S := fun w' => Below wr.heap.size wr w') (ds := []) #[false, false, false, false, false, false, false, false, false, false, false, false] (by kernel_rfl) rfl rfl (below_drew (Below.refl _ _)) (fun hHeld => ?_)
            refine take_ (i := 0) (N := some 97) (v := ?_) (a' := ?_) #[true, false, false, false, false, false, false, false, false, false, false, false] rfl rfl (by kernel_rfl) (fun _ _ _ h => h) (Or.inl ⟨by rfl, ?_⟩) hHeld ?_ ?_
            rotate_left
            · rintro w' hb'
              have dd0 := pw_cell_below hb' d0
              have dd1 := pw_cell_below hb' d1
              have dd2 := pw_cell_below hb' d2
              have dd3 := pw_cell_below hb' d3
              go_simp
              with_reducible rfl
            rotate_left
            · simp only [Act.put, List.setIfInBounds_toArray, List.set_cons_zero, List.set_cons_succ, i64_w, i32_w]
              rfl
            refine pure_ (i := 1) (N := some 98) (v := ?_) (a' := ?_) #[true, true, false, false, false, false, false, false, false, false, false, false] rfl rfl (by kernel_rfl) (fun _ _ _ h => h) (Or.inl ⟨by rfl, ?_⟩) ?_ ?_
            rotate_left
            · intro w'
              go_simp
              with_reducible rfl
            rotate_left
            · simp only [Act.put, List.setIfInBounds_toArray, List.set_cons_zero, List.set_cons_succ, i64_w, i32_w]
              rfl
            refine take_ (i := 2) (N := some 99) (v := ?_) (a' := ?_) #[true, true, true, false, false, false, false, false, false, false, false, false] rfl rfl (by kernel_rfl) (fun _ _ _ h => h) (Or.inl ⟨by rfl, ?_⟩) hHeld ?_ ?_
            rotate_left
            · rintro w' hb'
              have dd := pw_cell_below hb' d1
              go_simp
              with_reducible rfl
            rotate_left
            · simp only [Act.put, List.setIfInBounds_toArray, List.set_cons_zero, List.set_cons_succ, i64_w, i32_w]
              rfl
            refine pure_ (i := 3) (N := some 100) (v := ?_) (a' := ?_) #[true, true, true, true, false, false, false, false, false, false, false, false] rfl rfl (by kernel_rfl) (fun _ _ _ h => h) (Or.inl ⟨by rfl, ?_⟩) ?_ ?_
            rotate_left
            · intro w'
              go_simp
              with_reducible rfl
            rotate_left
            · simp only [Act.put, List.setIfInBounds_toArray, List.set_cons_zero, List.set_cons_succ, i64_w, i32_w]
              rfl
            refine pure_ (i := 4) (N := some 101) (v := ?_) (a' := ?_) #[true, true, true, true, true, false, false, false, false, false, false, false] rfl rfl (by kernel_rfl) (fun _ _ _ h => h) (Or.inl ⟨by rfl, ?_⟩) ?_ ?_
            rotate_left
            · intro w'
              go_simp
              with_reducible rfl
            rotate_left
            · simp only [Act.put, List.setIfInBounds_toArray, List.set_cons_zero, List.set_cons_succ, i64_w, i32_w]
              rfl
            refine take_ (i := 5) (N := some 102) (v := ?_) (a' := ?_) #[true, true, true, true, true, true, false, false, false, false, false, false] rfl rfl (by kernel_rfl) (fun _ _ _ h => h) (Or.inl ⟨by rfl, ?_⟩) hHeld ?_ ?_
            rotate_left
            · rintro w' hb'
              have dd := pw_cell_below hb' hck
              go_simp
              with_reducible rfl
            rotate_left
            · simp only [Act.put, List.setIfInBounds_toArray, List.set_cons_zero, List.set_cons_succ, i64_w, i32_w]
              rfl
            refine one_ (i := 6) (N := some 103) #[true, true, true, true, true, true, true, false, false, false, false, false] rfl rfl (by kernel_rfl) (by decide) (fun K hK => ?_)
            refine goes_ Try.func12 (by kernel_rfl) rfl #[(.agg #[.bool b.leaf, .slice (some ak) b.keys.length Ac1, .slice A2 b.vals.length Ac2, .slice A3 b.kids.length Ac3]), .int .u64 kk] (by rfl) rfl rfl (by (try simp only [List.map_toArray, List.map_cons, List.map_nil]); first | done | rfl) ?_
            refine (HA.out _ _ (hb.out.below (below_drew (Below.refl _ _))).at_).mono ?_
            rintro r y1 ⟨rfl, qz⟩
            have sy1 := below_then (below_drew (Below.refl _ _)) (Nat.le_refl _) qz
            clear qz
            refine ⟨_, rfl, ?_⟩
            refine hK.out _ _ sy1 (fun hHeld => ?_)
            clear hK K
            refine norm_ (a' := ?_) ?_ ?_
            rotate_left
            · show Act.put _ (some 103) _ = _
              simp only [Act.put, List.setIfInBounds_toArray, List.set_cons_zero, List.set_cons_succ, i64_w, i32_w]
              rfl
            refine pure_ (i := 7) (N := some 96) (v := ?_) (a' := ?_) #[true, true, true, true, true, true, true, true, false, false, false, false] rfl rfl (by kernel_rfl) (fun _ _ _ h => h) (Or.inl ⟨by rfl, ?_⟩) ?_ ?_
            rotate_left
            · intro w'
              go_simp
              with_reducible rfl
            rotate_left
            · simp only [Act.put, List.setIfInBounds_toArray, List.set_cons_zero, List.set_cons_succ, i64_w, i32_w]
              rfl
            refine pure_ (i := 8) (N := some 104) (v := ?_) (a' := ?_) #[true, true, true, true, true, true, true, true, true, false, false, false] rfl rfl (by kernel_rfl) (fun _ _ _ h => h) (Or.inl ⟨by rfl, ?_⟩) ?_ ?_
            rotate_left
            · intro w'
              go_simp
              with_reducible rfl
            rotate_left
            · simp only [Act.put, List.setIfInBounds_toArray, List.set_cons_zero, List.set_cons_succ, i64_w, i32_w]
              rfl
            refine pure_ (i := 9) (N := some 105) (v := ?_) (a' := ?_) #[true, true, true, true, true, true, true, true, true, true, false, false] rfl rfl (by kernel_rfl) (fun _ _ _ h => h) (Or.inl ⟨by rfl, ?_⟩) ?_ ?_
            rotate_left
            · intro w'
              go_simp
              with_reducible rfl
            rotate_left
            · simp only [Act.put, List.setIfInBounds_toArray, List.set_cons_zero, List.set_cons_succ, i64_w, i32_w]
              rfl
            refine pure_ (i := 10) (N := some 14) (v := ?_) (a' := ?_) #[true, true, true, true, true, true, true, true, true, true, true, false] rfl rfl (by kernel_rfl) (fun _ _ _ h => h) (Or.inl ⟨by rfl, ?_⟩) ?_ ?_
            rotate_left
            · intro w'
              go_simp
              with_reducible rfl
            rotate_left
            · simp only [Act.put, List.setIfInBounds_toArray, List.set_cons_zero, List.set_cons_succ, i64_w, i32_w]
              rfl
            refine pure_ (i := 11) (N := some 15) (v := ?_) (a' := ?_) #[true, true, true, true, true, true, true, true, true, true, true, true] rfl rfl (by kernel_rfl) (fun _ _ _ h => h) (Or.inl ⟨by rfl, ?_⟩) ?_ ?_
            rotate_left
            · intro w'
              go_simp
              with_reducible rfl
            rotate_left
            · simp only [Act.put, List.setIfInBounds_toArray, List.set_cons_zero, List.set_cons_succ, i64_w, i32_w]
              rfl
            refine done_ (by kernel_rfl) ?_
            replace hck := pw_cell_below sy1 hck
            replace hb := hid (hb.out.below sy1)
            replace hm := hid (hm.out.below sy1)
            replace hB := hid (below_then hB.out hB.out.size sy1)
            clear hHeld sy1 
            clear d0 d1 d2 d3
            clear f0 f1 f2 f3
            clear HA
            go_upto_region 19 with fail
            have d0 : y1.cell? ⟨gb, 0, none⟩ = some (.bool b.leaf) := (blk_cell hb.out.box 0).trans rfl
            have d1 : y1.cell? ⟨gb, 1, none⟩ = some (.slice (some ak) b.keys.length Ac1) := (blk_cell hb.out.box 1).trans rfl
            have d2 : y1.cell? ⟨gb, 2, none⟩ = some (.slice A2 b.vals.length Ac2) := (blk_cell hb.out.box 2).trans rfl
            have d3 : y1.cell? ⟨gb, 3, none⟩ = some (.slice A3 b.kids.length Ac3) := (blk_cell hb.out.box 3).trans rfl
            have f0 : y1.cell? ⟨gm, 0, none⟩ = some (.bool m.leaf) := (blk_cell hm.out.box 0).trans rfl
            have f1 : y1.cell? ⟨gm, 1, none⟩ = some (.slice B1 m.keys.length Bc1) := (blk_cell hm.out.box 1).trans rfl
            have f2 : y1.cell? ⟨gm, 2, none⟩ = some (.slice B2 m.vals.length Bc2) := (blk_cell hm.out.box 2).trans rfl
            have f3 : y1.cell? ⟨gm, 3, none⟩ = some (.slice B3 m.kids.length Bc3) := (blk_cell hm.out.box 3).trans rfl
            refine start_ (n := 12) (S := fun w' => Below y1.heap.size y1 w') (ds := []) #[false, false, false, false, false, false, false, false, false, false, false, false] (by kernel_rfl) rfl rfl (below_drew (Below.refl _ _)) (fun hHeld => ?_)
            refine take_ (i := 0) (N := some 107) (v := ?_) (a' := ?_) #[true, false, false, false, false, false, false, false, false, false, false, false] rfl rfl (by kernel_rfl) (fun _ _ _ h => h) (Or.inl ⟨by rfl, ?_⟩) hHeld ?_ ?_
            rotate_left
            · rintro w' hb'
              have dd0 := pw_cell_below hb' f0
              have dd1 := pw_cell_below hb' f1
              have dd2 := pw_cell_below hb' f2
              have dd3 := pw_cell_below hb' f3
              go_simp
              with_reducible rfl
            rotate_left
            · simp only [Act.put, List.setIfInBounds_toArray, List.set_cons_zero, List.set_cons_succ, i64_w, i32_w]
              rfl
            refine pure_ (i := 1) (N := some 108) (v := ?_) (a' := ?_) #[true, true, false, false, false, false, false, false, false, false, false, false] rfl rfl (by kernel_rfl) (fun _ _ _ h => h) (Or.inl ⟨by rfl, ?_⟩) ?_ ?_
            rotate_left
            · intro w'
              go_simp
              with_reducible rfl
            rotate_left
            · simp only [Act.put, List.setIfInBounds_toArray, List.set_cons_zero, List.set_cons_succ, i64_w, i32_w]
              rfl
            refine take_ (i := 2) (N := some 109) (v := ?_) (a' := ?_) #[true, true, true, false, false, false, false, false, false, false, false, false] rfl rfl (by kernel_rfl) (fun _ _ _ h => h) (Or.inl ⟨by rfl, ?_⟩) hHeld ?_ ?_
            rotate_left
            · rintro w' hb'
              have dd := pw_cell_below hb' d1
              go_simp
              with_reducible rfl
            rotate_left
            · simp only [Act.put, List.setIfInBounds_toArray, List.set_cons_zero, List.set_cons_succ, i64_w, i32_w]
              rfl
            refine pure_ (i := 3) (N := some 110) (v := ?_) (a' := ?_) #[true, true, true, true, false, false, false, false, false, false, false, false] rfl rfl (by kernel_rfl) (fun _ _ _ h => h) (Or.inl ⟨by rfl, ?_⟩) ?_ ?_
            rotate_left
            · intro w'
              go_simp
              with_reducible rfl
            rotate_left
            · simp only [Act.put, List.setIfInBounds_toArray, List.set_cons_zero, List.set_cons_succ, i64_w, i32_w]
              rfl
            refine pure_ (i := 4) (N := some 111) (v := ?_) (a' := ?_) #[true, true, true, true, true, false, false, false, false, false, false, false] rfl rfl (by kernel_rfl) (fun _ _ _ h => h) (Or.inl ⟨by rfl, ?_⟩) ?_ ?_
            rotate_left
            · intro w'
              go_simp
              with_reducible rfl
            rotate_left
            · simp only [Act.put, List.setIfInBounds_toArray, List.set_cons_zero, List.set_cons_succ, i64_w, i32_w]
              rfl
            refine take_ (i := 5) (N := some 112) (v := ?_) (a' := ?_) #[true, true, true, true, true, true, false, false, false, false, false, false] rfl rfl (by kernel_rfl) (fun _ _ _ h => h) (Or.inl ⟨by rfl, ?_⟩) hHeld ?_ ?_
            rotate_left
            · rintro w' hb'
              have dd := pw_cell_below hb' hck
              go_simp
              with_reducible rfl
            rotate_left
            · simp only [Act.put, List.setIfInBounds_toArray, List.set_cons_zero, List.set_cons_succ, i64_w, i32_w]
              rfl
            refine one_ (i := 6) (N := some 113) #[true, true, true, true, true, true, true, false, false, false, false, false] rfl rfl (by kernel_rfl) (by decide) (fun K hK => ?_)
            refine goes_ Try.func12 (by kernel_rfl) rfl #[(.agg #[.bool m.leaf, .slice B1 m.keys.length Bc1, .slice B2 m.vals.length Bc2, .slice B3 m.kids.length Bc3]), .int .u64 kk] (by rfl) rfl rfl (by (try simp only [List.map_toArray, List.map_cons, List.map_nil]); first | done | rfl) ?_
            refine (HA2.out _ _ (hm.out.below (below_drew (Below.refl _ _))).at_).mono ?_
            rintro r z1 ⟨rfl, qz⟩
            have sz1 := below_then (below_drew (Below.refl _ _)) (Nat.le_refl _) qz
            clear qz
            refine ⟨_, rfl, ?_⟩
            refine hK.out _ _ sz1 (fun hHeld => ?_)
            clear hK K
            refine norm_ (a' := ?_) ?_ ?_
            rotate_left
            · show Act.put _ (some 113) _ = _
              simp only [Act.put, List.setIfInBounds_toArray, List.set_cons_zero, List.set_cons_succ, i64_w, i32_w]
              rfl
            refine pure_ (i := 7) (N := some 106) (v := ?_) (a' := ?_) #[true, true, true, true, true, true, true, true, false, false, false, false] rfl rfl (by kernel_rfl) (fun _ _ _ h => h) (Or.inl ⟨by rfl, ?_⟩) ?_ ?_
            rotate_left
            · intro w'
              go_simp
              with_reducible rfl
            rotate_left
            · simp only [Act.put, List.setIfInBounds_toArray, List.set_cons_zero, List.set_cons_succ, i64_w, i32_w]
              rfl
            refine pure_ (i := 8) (N := some 114) (v := ?_) (a' := ?_) #[true, true, true, true, true, true, true, true, true, false, false, false] rfl rfl (by kernel_rfl) (fun _ _ _ h => h) (Or.inl ⟨by rfl, ?_⟩) ?_ ?_
            rotate_left
            · intro w'
              go_simp
              with_reducible rfl
            rotate_left
            · simp only [Act.put, List.setIfInBounds_toArray, List.set_cons_zero, List.set_cons_succ, i64_w, i32_w]
              rfl
            refine pure_ (i := 9) (N := some 115) (v := ?_) (a' := ?_) #[true, true, true, true, true, true, true, true, true, true, false, false] rfl rfl (by kernel_rfl) (fun _ _ _ h => h) (Or.inl ⟨by rfl, ?_⟩) ?_ ?_
            rotate_left
            · intro w'
              go_simp
              with_reducible rfl
            rotate_left
            · simp only [Act.put, List.setIfInBounds_toArray, List.set_cons_zero, List.set_cons_succ, i64_w, i32_w]
              rfl
            refine pure_ (i := 10) (N := some 16) (v := ?_) (a' := ?_) #[true, true, true, true, true, true, true, true, true, true, true, false] rfl rfl (by kernel_rfl) (fun _ _ _ h => h) (Or.inl ⟨by rfl, ?_⟩) ?_ ?_
            rotate_left
            · intro w'
              go_simp
              with_reducible rfl
            rotate_left
            · simp only [Act.put, List.setIfInBounds_toArray, List.set_cons_zero, List.set_cons_succ, i64_w, i32_w]
              rfl
            refine pure_ (i := 11) (N := some 17) (v := ?_) (a' := ?_) #[true, true, true, true, true, true, true, true, true, true, true, true] rfl rfl (by kernel_rfl) (fun _ _ _ h => h) (Or.inl ⟨by rfl, ?_⟩) ?_ ?_
            rotate_left
            · intro w'
              go_simp
              with_reducible rfl
            rotate_left
            · simp only [Act.put, List.setIfInBounds_toArray, List.set_cons_zero, List.set_cons_succ, i64_w, i32_w]
              rfl
            refine done_ (by kernel_rfl) ?_
            replace hb := hid (hb.out.below sz1)
            replace hm := hid (hm.out.below sz1)
            replace hB := hid (below_then hB.out hB.out.size sz1)
            clear hHeld sz1 
            clear d0 d1 d2 d3
            clear f0 f1 f2 f3
            clear HA2 hck
            go_upto_region 20 with fail
            obtain ⟨ai, hA3, hk1⟩ := hb.out.at_.kid ia h71
            subst hA3
            obtain ⟨am, hA4, hk2⟩ := hm.out.at_.kid im h72
            subst hA4
            rw [h73] at hk1
            generalize m.kids.getD im 0 = kd at *
            have g1 : ¬ ((b.kids.length : Int) ≤ (ia : Int)) := by omega
            have g2 : ¬ ((m.kids.length : Int) ≤ (im : Int)) := by omega
            have g3 : (ia : Int) < (b.kids.length : Int) := by omega
            have g4 : (im : Int) < (m.kids.length : Int) := by omega
            clear h71 h72 h73
            have d0 : z1.cell? ⟨gb, 0, none⟩ = some (.bool b.leaf) := (blk_cell hb.out.box 0).trans rfl
            have d1 : z1.cell? ⟨gb, 1, none⟩ = some (.slice (some ak) b.keys.length Ac1) := (blk_cell hb.out.box 1).trans rfl
            have d2 : z1.cell? ⟨gb, 2, none⟩ = some (.slice A2 b.vals.length Ac2) := (blk_cell hb.out.box 2).trans rfl
            have d3 : z1.cell? ⟨gb, 3, none⟩ = some (.slice (some ai) b.kids.length Ac3) := (blk_cell hb.out.box 3).trans rfl
            have f0 : z1.cell? ⟨gm, 0, none⟩ = some (.bool m.leaf) := (blk_cell hm.out.box 0).trans rfl
            have f1 : z1.cell? ⟨gm, 1, none⟩ = some (.slice B1 m.keys.length Bc1) := (blk_cell hm.out.box 1).trans rfl
            have f2 : z1.cell? ⟨gm, 2, none⟩ = some (.slice B2 m.vals.length Bc2) := (blk_cell hm.out.box 2).trans rfl
            have f3 : z1.cell? ⟨gm, 3, none⟩ = some (.slice (some am) m.kids.length Bc3) := (blk_cell hm.out.box 3).trans rfl
            refine start_ (n := 25) (S := fun w' => Below z1.heap.size z1 w') (ds := []) #[false, false, false, false, false, false, false, false, false, false, false, false, false, false, false, false, false, false, false, false, false, false, false, false, false] (by kernel_rfl) rfl rfl (below_drew (Below.refl _ _)) (fun hHeld => ?_)
            refine pure_ (i := 0) (N := some 116) (v := ?_) (a' := ?_) #[true, false, false, false, false, false, false, false, false, false, false, false, false, false, false, false, false, false, false, false, false, false, false, false, false] rfl rfl (by kernel_rfl) (fun _ _ _ h => h) (Or.inl ⟨by rfl, ?_⟩) ?_ ?_
            rotate_left
            · intro w'
              go_simp
              with_reducible rfl
            rotate_left
            · simp only [Act.put, List.setIfInBounds_toArray, List.set_cons_zero, List.set_cons_succ, i64_w, i32_w]
              rfl
            refine pure_ (i := 1) (N := some 117) (v := ?_) (a' := ?_) #[true, true, false, false, false, false, false, false, false, false, false, false, false, false, false, false, false, false, false, false, false, false, false, false, false] rfl rfl (by kernel_rfl) (fun _ _ _ h => h) (Or.inl ⟨by rfl, ?_⟩) ?_ ?_
            rotate_left
            · intro w'
              go_simp
              with_reducible rfl
            rotate_left
            · simp only [Act.put, List.setIfInBounds_toArray, List.set_cons_zero, List.set_cons_succ, i64_w, i32_w]
              rfl
            refine take_ (i := 2) (N := some 118) (v := ?_) (a' := ?_) #[true, true, true, false, false, false, false, false, false, false, false, false, false, false, false, false, false, false, false, false, false, false, false, false, false] rfl rfl (by kernel_rfl) (fun _ _ _ h => h) (Or.inl ⟨by rfl, ?_⟩) hHeld ?_ ?_
            rotate_left
            · rintro w' hb'
              have dd := pw_cell_below hb' d3
              go_simp
              with_reducible rfl
            rotate_left
            · simp only [Act.put, List.setIfInBounds_toArray, List.set_cons_zero, List.set_cons_succ, i64_w, i32_w]
              rfl
            refine pure_ (i := 3) (N := some 119) (v := ?_) (a' := ?_) #[true, true, true, true, false, false, false, false, false, false, false, false, false, false, false, false, false, false, false, false, false, false, false, false, false] rfl rfl (by kernel_rfl) (fun _ _ _ h => h) (Or.inl ⟨by rfl, ?_⟩) ?_ ?_
            rotate_left
            · intro w'
              go_simp
              with_reducible rfl
            rotate_left
            · simp only [Act.put, List.setIfInBounds_toArray, List.set_cons_zero, List.set_cons_succ, i64_w, i32_w]
              rfl
            refine pure_ (i := 4) (N := some 120) (v := ?_) (a' := ?_) #[true, true, true, true, true, false, false, false, false, false, false, false, false, false, false, false, false, false, false, false, false, false, false, false, false] rfl rfl (by kernel_rfl) (fun _ _ _ h => h) (Or.inl ⟨by rfl, ?_⟩) ?_ ?_
            rotate_left
            · intro w'
              go_simp
              with_reducible rfl
            rotate_left
            · simp only [Act.put, List.setIfInBounds_toArray, List.set_cons_zero, List.set_cons_succ, i64_w, i32_w]
              rfl
            refine pure_ (i := 5) (N := some 121) (v := ?_) (a' := ?_) #[true, true, true, true, true, true, false, false, false, false, false, false, false, false, false, false, false, false, false, false, false, false, false, false, false] rfl rfl (by kernel_rfl) (fun _ _ _ h => h) (Or.inl ⟨by rfl, ?_⟩) ?_ ?_
            rotate_left
            · intro w'
              go_simp
              with_reducible rfl
            rotate_left
            · simp only [Act.put, List.setIfInBounds_toArray, List.set_cons_zero, List.set_cons_succ, i64_w, i32_w]
              rfl
            refine pure_ (i := 6) (N := some 122) (v := ?_) (a' := ?_) #[true, true, true, true, true, true, true, false, false, false, false, false, false, false, false, false, false, false, false, false, false, false, false, false, false] rfl rfl (by kernel_rfl) (fun _ _ _ h => h) (Or.inl ⟨by rfl, ?_⟩) ?_ ?_
            rotate_left
            · intro w'
              go_simp
              with_reducible rfl
            rotate_left
            · simp only [Act.put, List.setIfInBounds_toArray, List.set_cons_zero, List.set_cons_succ, i64_w, i32_w]
              rfl
            refine pure_ (i := 7) (N := some 123) (v := ?_) (a' := ?_) #[true, true, true, true, true, true, true, true, false, false, false, false, false, false, false, false, false, false, false, false, false, false, false, false, false] rfl rfl (by kernel_rfl) (fun _ _ _ h => h) (Or.inl ⟨by rfl, ?_⟩) ?_ ?_
            rotate_left
            · intro w'
              go_simp
              with_reducible rfl
            rotate_left
            · simp only [Act.put, List.setIfInBounds_toArray, List.set_cons_zero, List.set_cons_succ, i64_w, i32_w]
              rfl
            refine take_ (i := 8) (N := some 124) (v := ?_) (a' := ?_) #[true, true, true, true, true, true, true, true, true, false, false, false, false, false, false, false, false, false, false, false, false, false, false, false, false] rfl rfl (by kernel_rfl) (fun _ _ _ h => h) (Or.inl ⟨by rfl, ?_⟩) hHeld ?_ ?_
            rotate_left
            · rintro w' hb'
              have dd := pw_cell_below hb' f3
              go_simp
              with_reducible rfl
            rotate_left
            · simp only [Act.put, List.setIfInBounds_toArray, List.set_cons_zero, List.set_cons_succ, i64_w, i32_w]
              rfl
            refine pure_ (i := 9) (N := some 125) (v := ?_) (a' := ?_) #[true, true, true, true, true, true, true, true, true, true, false, false, false, false, false, false, false, false, false, false, false, false, false, false, false] rfl rfl (by kernel_rfl) (fun _ _ _ h => h) (Or.inl ⟨by rfl, ?_⟩) ?_ ?_
            rotate_left
            · intro w'
              go_simp
              with_reducible rfl
            rotate_left
            · simp only [Act.put, List.setIfInBounds_toArray, List.set_cons_zero, List.set_cons_succ, i64_w, i32_w]
              rfl
            refine pure_ (i := 10) (N := some 126) (v := ?_) (a' := ?_) #[true, true, true, true, true, true, true, true, true, true, true, false, false, false, false, false, false, false, false, false, false, false, false, false, false] rfl rfl (by kernel_rfl) (fun _ _ _ h => h) (Or.inl ⟨by rfl, ?_⟩) ?_ ?_
            rotate_left
            · intro w'
              go_simp
              with_reducible rfl
            rotate_left
            · simp only [Act.put, List.setIfInBounds_toArray, List.set_cons_zero, List.set_cons_succ, i64_w, i32_w]
              rfl
            refine pure_ (i := 11) (N := some 127) (v := ?_) (a' := ?_) #[true, true, true, true, true, true, true, true, true, true, true, true, false, false, false, false, false, false, false, false, false, false, false, false, false] rfl rfl (by kernel_rfl) (fun _ _ _ h => h) (Or.inl ⟨by rfl, ?_⟩) ?_ ?_
            rotate_left
            · intro w'
              go_simp
              with_reducible rfl
            rotate_left
            · simp only [Act.put, List.setIfInBounds_toArray, List.set_cons_zero, List.set_cons_succ, i64_w, i32_w]
              rfl
            refine pure_ (i := 12) (N := some 128) (v := ?_) (a' := ?_) #[true, true, true, true, true, true, true, true, true, true, true, true, true, false, false, false, false, false, false, false, false, false, false, false, false] rfl rfl (by kernel_rfl) (fun _ _ _ h => h) (Or.inl ⟨by rfl, ?_⟩) ?_ ?_
            rotate_left
            · intro w'
              go_simp
              with_reducible rfl
            rotate_left
            · simp only [Act.put, List.setIfInBounds_toArray, List.set_cons_zero, List.set_cons_succ, i64_w, i32_w]
              rfl
            refine pure_ (i := 13) (N := some 129) (v := ?_) (a' := ?_) #[true, true, true, true, true, true, true, true, true, true, true, true, true, true, false, false, false, false, false, false, false, false, false, false, false] rfl rfl (by kernel_rfl) (fun _ _ _ h => h) (Or.inl ⟨by rfl, ?_⟩) ?_ ?_
            rotate_left
            · intro w'
              go_simp
              with_reducible rfl
            rotate_left
            · simp only [Act.put, List.setIfInBounds_toArray, List.set_cons_zero, List.set_cons_succ, i64_w, i32_w]
              rfl
            refine take_ (i := 14) (N := some 130) (v := ?_) (a' := ?_) #[true, true, true, true, true, true, true, true, true, true, true, true, true, true, true, false, false, false, false, false, false, false, false, false, false] rfl rfl (by kernel_rfl) (fun _ _ _ h => h) (Or.inl ⟨by rfl, ?_⟩) hHeld ?_ ?_
            rotate_left
            · rintro w' hb'
              have dd := pw_cell_below hb' d3
              go_simp
              with_reducible rfl
            rotate_left
            · simp only [Act.put, List.setIfInBounds_toArray, List.set_cons_zero, List.set_cons_succ, i64_w, i32_w]
              rfl
            refine pure_ (i := 15) (N := some 131) (v := ?_) (a' := ?_) #[true, true, true, true, true, true, true, true, true, true, true, true, true, true, true, true, false, false, false, false, false, false, false, false, false] rfl rfl (by kernel_rfl) (fun _ _ _ h => h) (Or.inl ⟨by rfl, ?_⟩) ?_ ?_
            rotate_left
            · intro w'
              go_simp
              with_reducible rfl
            rotate_left
            · simp only [Act.put, List.setIfInBounds_toArray, List.set_cons_zero, List.set_cons_succ, i64_w, i32_w]
              rfl
            refine pure_ (i := 16) (N := some 132) (v := ?_) (a' := ?_) #[true, true, true, true, true, true, true, true, true, true, true, true, true, true, true, true, true, false, false, false, false, false, false, false, false] rfl rfl (by kernel_rfl) (fun _ _ _ h => h) (Or.inl ⟨by rfl, ?_⟩) ?_ ?_
            rotate_left
            · intro w'
              go_simp
              with_reducible rfl
            rotate_left
            · simp only [Act.put, List.setIfInBounds_toArray, List.set_cons_zero, List.set_cons_succ, i64_w, i32_w]
              rfl
            refine take_ (i := 17) (N := some 133) (v := ?_) (a' := ?_) #[true, true, true, true, true, true, true, true, true, true, true, true, true, true, true, true, true, true, false, false, false, false, false, false, false] rfl rfl (by kernel_rfl) (fun _ _ _ h => h) (Or.inl ⟨by rfl, ?_⟩) hHeld ?_ ?_
            rotate_left
            · rintro w' hb'
              have dd := pw_cell_below hb' hk1
              go_simp
              with_reducible rfl
            rotate_left
            · simp only [Act.put, List.setIfInBounds_toArray, List.set_cons_zero, List.set_cons_succ, i64_w, i32_w]
              rfl
            refine pure_ (i := 18) (N := some 134) (v := ?_) (a' := ?_) #[true, true, true, true, true, true, true, true, true, true, true, true, true, true, true, true, true, true, true, false, false, false, false, false, false] rfl rfl (by kernel_rfl) (fun _ _ _ h => h) (Or.inl ⟨by rfl, ?_⟩) ?_ ?_
            rotate_left
            · intro w'
              go_simp
              with_reducible rfl
            rotate_left
            · simp only [Act.put, List.setIfInBounds_toArray, List.set_cons_zero, List.set_cons_succ, i64_w, i32_w]
              rfl
            refine take_ (i := 19) (N := some 135) (v := ?_) (a' := ?_) #[true, true, true, true, true, true, true, true, true, true, true, true, true, true, true, true, true, true, true, true, false, false, false, false, false] rfl rfl (by kernel_rfl) (fun _ _ _ h => h) (Or.inl ⟨by rfl, ?_⟩) hHeld ?_ ?_
            rotate_left
            · rintro w' hb'
              have dd := pw_cell_below hb' f3
              go_simp
              with_reducible rfl
            rotate_left
            · simp only [Act.put, List.setIfInBounds_toArray, List.set_cons_zero, List.set_cons_succ, i64_w, i32_w]
              rfl
            refine pure_ (i := 20) (N := some 136) (v := ?_) (a' := ?_) #[true, true, true, true, true, true, true, true, true, true, true, true, true, true, true, true, true, true, true, true, true, false, false, false, false] rfl rfl (by kernel_rfl) (fun _ _ _ h => h) (Or.inl ⟨by rfl, ?_⟩) ?_ ?_
            rotate_left
            · intro w'
              go_simp
              with_reducible rfl
            rotate_left
            · simp only [Act.put, List.setIfInBounds_toArray, List.set_cons_zero, List.set_cons_succ, i64_w, i32_w]
              rfl
            refine pure_ (i := 21) (N := some 137) (v := ?_) (a' := ?_) #[true, true, true, true, true, true, true, true, true, true, true, true, true, true, true, true, true, true, true, true, true, true, false, false, false] rfl rfl (by kernel_rfl) (fun _ _ _ h => h) (Or.inl ⟨by rfl, ?_⟩) ?_ ?_
            rotate_left
            · intro w'
              go_simp
              with_reducible rfl
            rotate_left
            · simp only [Act.put, List.setIfInBounds_toArray, List.set_cons_zero, List.set_cons_succ, i64_w, i32_w]
              rfl
            refine take_ (i := 22) (N := some 138) (v := ?_) (a' := ?_) #[true, true, true, true, true, true, true, true, true, true, true, true, true, true, true, true, true, true, true, true, true, true, true, false, false] rfl rfl (by kernel_rfl) (fun _ _ _ h => h) (Or.inl ⟨by rfl, ?_⟩) hHeld ?_ ?_
            rotate_left
            · rintro w' hb'
              have dd := pw_cell_below hb' hk2
              go_simp
              with_reducible rfl
            rotate_left
            · simp only [Act.put, List.setIfInBounds_toArray, List.set_cons_zero, List.set_cons_succ, i64_w, i32_w]
              rfl
            refine pure_ (i := 23) (N := some 139) (v := ?_) (a' := ?_) #[true, true, true, true, true, true, true, true, true, true, true, true, true, true, true, true, true, true, true, true, true, true, true, true, false] rfl rfl (by kernel_rfl) (fun _ _ _ h => h) (Or.inl ⟨by rfl, ?_⟩) ?_ ?_
            rotate_left
            · intro w'
              go_simp
              with_reducible rfl
            rotate_left
            · simp only [Act.put, List.setIfInBounds_toArray, List.set_cons_zero, List.set_cons_succ, i64_w, i32_w]
              rfl
            refine pure_ (i := 24) (N := some 140) (v := ?_) (a' := ?_) #[true, true, true, true, true, true, true, true, true, true, true, true, true, true, true, true, true, true, true, true, true, true, true, true, true] rfl rfl (by kernel_rfl) (fun _ _ _ h => h) (Or.inl ⟨by rfl, ?_⟩) ?_ ?_
            rotate_left
            · intro w'
              go_simp
              with_reducible rfl
            rotate_left
            · simp only [Act.put, List.setIfInBounds_toArray, List.set_cons_zero, List.set_cons_succ, i64_w, i32_w]
              rfl
            refine done_ (by kernel_rfl) ?_
            clear hHeld g1 g2 g3 g4 hk1 hk2
            clear d0 d1 d2 d3 f0 f1 f2 f3
            replace hb := hid (hb.out.below (below_drew (Below.refl _ _)))
            replace hm := hid (hm.out.below (below_drew (Below.refl _ _)))
            replace hB := hid (below_drew hB.out)
            have e3 : wrap64 ((k : Int) + 1) = ((k + 1 : Nat) : Int) := by have := b1'.out; rw [wr64 _ (by omega) (by omega)]; omega
            replace e3 := hid e3
            go_wp2_with fail
            go_roundg g
            case measure => omega
            case rel => exact ⟨k + 1, by rw [e3.out], by omega, hb, hm, hB⟩
        · have a1 : ¬ ((k : Int) < (b.keys.length : Int)) := by omega
          have d0 : wr.cell? ⟨gb, 0, none⟩ = some (.bool b.leaf) := (blk_cell hb.out.box 0).trans rfl
          have d1 : wr.cell? ⟨gb, 1, none⟩ = some (.slice A1 b.keys.length Ac1) := (blk_cell hb.out.box 1).trans rfl
          have d2 : wr.cell? ⟨gb, 2, none⟩ = some (.slice A2 b.vals.length Ac2) := (blk_cell hb.out.box 2).trans rfl
          have d3 : wr.cell? ⟨gb, 3, none⟩ = some (.slice A3 b.kids.length Ac3) := (blk_cell hb.out.box 3).trans rfl
          have f0 : wr.cell? ⟨gm, 0, none⟩ = some (.bool m.leaf) := (blk_cell hm.out.box 0).trans rfl
          have f1 : wr.cell? ⟨gm, 1, none⟩ = some (.slice B1 m.keys.length Bc1) := (blk_cell hm.out.box 1).trans rfl
          have f2 : wr.cell? ⟨gm, 2, none⟩ = some (.slice B2 m.vals.length Bc2) := (blk_cell hm.out.box 2).trans rfl
          have f3 : wr.cell? ⟨gm, 3, none⟩ = some (.slice B3 m.kids.length Bc3) := (blk_cell hm.out.box 3).trans rfl
          obtain ⟨am, hA4, hk2⟩ := hm.out.at_.kid p1 (by have := hp1'.out; have := em2.out; have := b2'.out; have := hl.out; omega)
          subst hA4
          rw [hp1'.out, hq.out.k6, ← hp1'.out] at hk2
          have g3 : (p1 : Int) < (m.kids.length : Int) := by have := hp1'.out; have := em2.out; have := b2'.out; have := hl.out; omega
          have e4 : wrap64 ((p : Int) + 1) = (p1 : Int) := by have := hp1'.out; have := hl.out; have := b1'.out; rw [wr64 _ (by omega) (by omega)]; omega
          clear hq hk hl em1 em2
          go_wp2_with fail
          go_ret
          exact ⟨rfl, hB.out⟩
end Go.Proofs.Ytnghbfegijnolaa.A
