/-
  NodeSizes, walked.
-/
import Derived.Test.YtnghbfegijnolaaAe
import Derived.Test.YtnghbfegijnolaaB2
import Derived.Deep.DeepCutAuto
namespace Go.Proofs.Ytnghbfegijnolaa.A
set_option linter.unusedVariables false
set_option linter.unusedSimpArgs false
open Go.RowKit Go.Proofs.YtnghbfegijnolaaW.PrintWords Go.Proofs.YtnghbfegijnolaaW.PrintLast Go.Proofs.YtnghbfegijnolaaW.PrintMore
open Go.Lib (hid)
theorem At.val {w : World} {x : Nd} {b : Bool} {A1 A2 A3 : Option Addr} {n1 n2 n3 c1 c2 c3 : Nat} (H : At w (.agg #[.bool b, .slice A1 n1 c1, .slice A2 n2 c2, .slice A3 n3 c3]) x) (i : Nat) (hi : i < x.vals.length) : ∃ ad, A2 = some ad ∧ w.cell? (ad.add i) = some (.string (x.vals.getD i ⟨#[]⟩)) := by
  obtain ⟨B1, d1, B2, d2, B3, d3, e, _, ⟨h1, l1⟩, _⟩ := H
  have e1 : A2 = B2 := by
    have h := congrArg (fun v => match v with | Value.agg cs => (match cs[2]? with | some (Value.slice a _ _) => a | _ => none) | _ => none) e
    exact h
  subst e1
  exact C_one h1 ⟨#[]⟩ i hi
set_option maxHeartbeats 1000000 in
set_option maxRecDepth 100000 in
theorem NodeSizes_walk (ps : List (Int × ByteArray)) (A0 : Option Addr) (c0 : Nat) (key : Int) (s : ByteArray) (w : World) (H : (Kd.pair (Kd.int .u64) Kd.string).C w A0 ps.length ps) :
    Calls Try.prog 6 #[.slice A0 ps.length c0, .int .u64 key, .string s] w fun e w' => e = .returned (.bool true) ∧ Below w.heap.size w w' := by
  have HG := hid (fun W (hb : Below w.heap.size w W) => grow_walk ps A0 c0 W (Kd.C_below H hb))
  have HB := hid (fun W (hb : Below w.heap.size w W) => branch_walk ps A0 c0 W (Kd.C_below H hb))
  have HE := hid (fun W => examples_walk W)
  have on := grow_ok ps
  have ob := branch_ok ps
  generalize growF ps = n at *
  generalize branchF ps = b at *
  clear H
  have hv := cut40_le s
  have ec : Hid (s.extract 0 (min (s.size : Int) 40).toNat = cut40 s) := hid (by rw [cut40, show (min (s.size : Int) 40).toNat = min s.size 40 by omega])
  generalize cut40 s = v at *
  have op := on.put key v hv
  have n1 := on.few
  have n2 := on.same
  have n3 := on.sum
  have p1 := op.few
  have p2 := op.same
  have p3 := op.sum
  have b1 := ob.few
  have b2 := ob.kids
  have ob1 : (hangF b (atF b key : Nat) key 9).keys.length ≤ 21 ∧ (hangF b (atF b key : Nat) key 9).kids.length ≤ 22 ∧ sumS (hangF b (atF b key : Nat) key 9).vals = 0 ∧ (hangF b (atF b key : Nat) key 9).vals.length = 0 := by
    have hl := at_le b key
    have e := hang_len b (atF b key : Nat) key 9 20 ob.leaf b1 (by omega)
    have ev : (hangF b (atF b key : Nat) key 9).vals = [] := by rw [hangF, if_pos ⟨ob.leaf, by omega, by omega⟩]
    rw [ev]
    exact ⟨e.1, e.2.1, rfl, rfl⟩
  have HF := hid (fun u W (h : At W u n) => find_walk n u key W h (by omega))
  rw [show findF n key = (((place n.keys key : Nat) : Int), isAt n.keys key) from if_pos on.leaf] at HF
  have HFb := hid (fun u W (h : At W u b) => find_walk b u key W h (by omega))
  rw [find_branch b key ob.leaf] at HFb
  have HP := hid (fun u W (h : At W u n) => put_walk n u key v W h (by omega) (by omega))
  have HS1 := hid (fun u W (h : At W u n) => size_walk n u W h (by omega) (by omega) (by rw [on.kids]; decide) (by omega))
  have HS2 := hid (fun u W (h : At W u (putF n key v)) => size_walk (putF n key v) u W h (by omega) (by omega) (by rw [op.kids]; decide) (by omega))
  have HH := hid (fun u W (h : At W u b) => hang_walk b u (atF b key : Nat) key 9 W h (by omega) (by omega))
  have HS3 := hid (fun u W (h : At W u b) => size_walk b u W h (by omega) (by rw [ob.vals]; decide) (by omega) (by rw [ob.vals]; decide))
  have HS4 := hid (fun u W (h : At W u (hangF b (atF b key : Nat) key 9)) => size_walk (hangF b (atF b key : Nat) key 9) u W h (by omega) (by omega) (by omega) (by rw [ob1.2.2.1]; decide))
  have sz := on.size
  have z1 := hid (fun h => size_put0 on (key := key) h v)
  have z2 := hid (fun h => size_put1 on (key := key) h v ⟨#[]⟩)
  have z3 := hid (size_hang ob key 9)
  have z4 := hid (size_branch ob)
  have z5 := hid (fun h => isAt_get (l := n.keys) (key := key) h)
  have z6 := hid (at_le b key)
  generalize hS1 : sizeF (putF n key v) = S1 at *
  generalize hS0 : sizeF n = S0 at *
  generalize hS3 : sizeF (hangF b (atF b key : Nat) key 9) = S3 at *
  generalize hS2 : sizeF b = S2 at *
  generalize atF b key = p at *
  generalize hq : place n.keys key = q at *
  generalize ht : isAt n.keys key = t at *
  clear op on ob hS1 hS0 hS3 hS2 hq ht ob1
  have nn2 : Hid (n.vals.length = n.keys.length) := hid n2
  have nb1 : Hid (b.keys.length ≤ 20) := hid b1
  have hv' := hid hv
  have sz' := hid sz
  clear n1 n2 n3 p1 p2 p3 b1 b2 hv sz
  go_enter Try.func6, Try.ntmps6
  (try dsimp only [List.append])
  go_upto_region 4 with (first | ((with_reducible refine Calls.mono (HE.out _) ?_); rintro r w1 ⟨rfl, hB⟩; replace hB := hid hB))
  clear HE
  go_cut [2] (fun s2 wx => s2 = .string v ∧ w1 = wx)
  case first =>
    go_wp2_with fail
    go_meet
    exact ⟨by rw [ec.out], rfl⟩
  case rest =>
    obtain ⟨rfl, rfl⟩ := hcut
    clear ec
    go_upto_region 6 with (first | ((with_reducible refine Calls.mono (HG.out _ hB.out) ?_); rintro r w2 ⟨v0, rfl, q0, hb⟩; obtain ⟨A1, Ac1, A2, Ac2, A3, Ac3, rfl, q1, q2, q3⟩ := q0; have hn := hid (Boxed.new (show At w2 (.agg #[.bool n.leaf, .slice A1 n.keys.length Ac1, .slice A2 n.vals.length Ac2, .slice A3 n.kids.length Ac3]) n from ⟨A1, Ac1, A2, Ac2, A3, Ac3, rfl, q1, q2, q3⟩)); clear q1 q2 q3; replace hB := hid (below_then hB.out hB.out.size hb); skip; replace hB := hid (below_alloc hB.out (.cells #[.bool n.leaf, .slice A1 n.keys.length Ac1, .slice A2 n.vals.length Ac2, .slice A3 n.kids.length Ac3] 29)); clear hb))
    change Code.wp _ _ _ _ (w2.alloc (.cells #[.bool n.leaf, .slice A1 n.keys.length Ac1, .slice A2 n.vals.length Ac2, .slice A3 n.kids.length Ac3] 29))
    generalize w2.alloc (.cells #[.bool n.leaf, .slice A1 n.keys.length Ac1, .slice A2 n.vals.length Ac2, .slice A3 n.kids.length Ac3] 29) = w3 at *
    have lhn := hid hn.out.lt
    generalize w2.heap.size = gn at *
    clear HG
    have d0 : w3.cell? ⟨gn, 0, none⟩ = some (.bool n.leaf) := (blk_cell hn.out.box 0).trans rfl
    have d1 : w3.cell? ⟨gn, 1, none⟩ = some (.slice A1 n.keys.length Ac1) := (blk_cell hn.out.box 1).trans rfl
    have d2 : w3.cell? ⟨gn, 2, none⟩ = some (.slice A2 n.vals.length Ac2) := (blk_cell hn.out.box 2).trans rfl
    have d3 : w3.cell? ⟨gn, 3, none⟩ = some (.slice A3 n.kids.length Ac3) := (blk_cell hn.out.box 3).trans rfl
    go_upto_region 7 with (first | ((with_reducible refine Calls.mono (HF.out _ _ hn.out.at_) ?_); rintro r w4 ⟨rfl, hb⟩; replace hn := hid (hn.out.below hb); replace hB := hid (below_then hB.out hB.out.size hb); clear hb))
    clear d0 d1 d2 d3
    have d0 : w4.cell? ⟨gn, 0, none⟩ = some (.bool n.leaf) := (blk_cell hn.out.box 0).trans rfl
    have d1 : w4.cell? ⟨gn, 1, none⟩ = some (.slice A1 n.keys.length Ac1) := (blk_cell hn.out.box 1).trans rfl
    have d2 : w4.cell? ⟨gn, 2, none⟩ = some (.slice A2 n.vals.length Ac2) := (blk_cell hn.out.box 2).trans rfl
    have d3 : w4.cell? ⟨gn, 3, none⟩ = some (.slice A3 n.kids.length Ac3) := (blk_cell hn.out.box 3).trans rfl
    refine start_ (n := 9) (S := fun w' => Below w4.heap.size w4 w') (ds := []) #[false, false, false, false, false, false, false, false, false] (by kernel_rfl) rfl rfl (below_drew (Below.refl _ _)) (fun hHeld => ?_)
    refine take_ (i := 0) (N := some 33) (v := ?_) (a' := ?_) #[true, false, false, false, false, false, false, false, false] rfl rfl (by kernel_rfl) (fun _ _ _ h => h) (Or.inl ⟨by rfl, ?_⟩) hHeld ?_ ?_
    rotate_left
    · rintro w' hb'
      have dd0 := pw_cell_below hb' d0
      have dd1 := pw_cell_below hb' d1
      have dd2 := pw_cell_below hb' d2
      have dd3 := pw_cell_below hb' d3
      go_simp
      with_reducible rfl
    rotate_left
    · simp only [Act.put, List.setIfInBounds_toArray, List.set_cons_zero, List.set_cons_succ, i64_w, i32_w]
      rfl
    refine pure_ (i := 1) (N := some 34) (v := ?_) (a' := ?_) #[true, true, false, false, false, false, false, false, false] rfl rfl (by kernel_rfl) (fun _ _ _ h => h) (Or.inl ⟨by rfl, ?_⟩) ?_ ?_
    rotate_left
    · intro w'
      go_simp
      with_reducible rfl
    rotate_left
    · simp only [Act.put, List.setIfInBounds_toArray, List.set_cons_zero, List.set_cons_succ, i64_w, i32_w]
      rfl
    refine pure_ (i := 2) (N := some 35) (v := ?_) (a' := ?_) #[true, true, true, false, false, false, false, false, false] rfl rfl (by kernel_rfl) (fun _ _ _ h => h) (Or.inl ⟨by rfl, ?_⟩) ?_ ?_
    rotate_left
    · intro w'
      go_simp
      with_reducible rfl
    rotate_left
    · simp only [Act.put, List.setIfInBounds_toArray, List.set_cons_zero, List.set_cons_succ, i64_w, i32_w]
      rfl
    refine take_ (i := 5) (N := some 38) (v := ?_) (a' := ?_) #[true, true, true, false, false, true, false, false, false] rfl rfl (by kernel_rfl) (fun _ _ _ h => h) (Or.inl ⟨by rfl, ?_⟩) hHeld ?_ ?_
    rotate_left
    · rintro w' hb'
      have dd0 := pw_cell_below hb' d0
      have dd1 := pw_cell_below hb' d1
      have dd2 := pw_cell_below hb' d2
      have dd3 := pw_cell_below hb' d3
      go_simp
      with_reducible rfl
    rotate_left
    · simp only [Act.put, List.setIfInBounds_toArray, List.set_cons_zero, List.set_cons_succ, i64_w, i32_w]
      rfl
    refine one_ (i := 3) (N := some 36) #[true, true, true, true, false, true, false, false, false] rfl rfl (by kernel_rfl) (by decide) (fun K hK => ?_)
    refine goes_ Try.func22 (by kernel_rfl) rfl #[(.agg #[.bool n.leaf, .slice A1 n.keys.length Ac1, .slice A2 n.vals.length Ac2, .slice A3 n.kids.length Ac3]), .int .u64 key, .string v] (by rfl) rfl rfl (by (try simp only [List.map_toArray, List.map_cons, List.map_nil]); first | done | rfl) ?_
    refine (HP.out _ _ (hn.out.below (below_drew (Below.refl _ _))).at_).mono ?_
    rintro r x1 ⟨vp, rfl, qp, qz⟩
    replace qp := hid qp
    have sx1 := below_then (below_drew (Below.refl _ _)) (Nat.le_refl _) qz
    clear qz
    refine ⟨_, rfl, ?_⟩
    refine hK.out _ _ sx1 (fun hHeld => ?_)
    clear hK K
    refine norm_ (a' := ?_) ?_ ?_
    rotate_left
    · show Act.put _ (some 36) _ = _
      simp only [Act.put, List.setIfInBounds_toArray, List.set_cons_zero, List.set_cons_succ, i64_w, i32_w]
      rfl
    refine one_ (i := 4) (N := some 37) #[true, true, true, true, true, true, false, false, false] rfl rfl (by kernel_rfl) (by decide) (fun K hK => ?_)
    refine goes_ Try.func20 (by kernel_rfl) rfl #[vp] (by rfl) rfl rfl (by (try simp only [List.map_toArray, List.map_cons, List.map_nil]); first | done | rfl) ?_
    refine (HS2.out _ _ qp.out).mono ?_
    rintro r x2 ⟨rfl, qz⟩
    replace qp := hid (qp.out.below qz)
    have sx2 := below_then sx1 sx1.size qz
    clear qz
    refine ⟨_, rfl, ?_⟩
    refine hK.out _ _ sx2 (fun hHeld => ?_)
    clear hK K
    refine norm_ (a' := ?_) ?_ ?_
    rotate_left
    · show Act.put _ (some 37) _ = _
      simp only [Act.put, List.setIfInBounds_toArray, List.set_cons_zero, List.set_cons_succ, i64_w, i32_w]
      rfl
    refine one_ (i := 6) (N := some 39) #[true, true, true, true, true, true, true, false, false] rfl rfl (by kernel_rfl) (by decide) (fun K hK => ?_)
    refine goes_ Try.func20 (by kernel_rfl) rfl #[(.agg #[.bool n.leaf, .slice A1 n.keys.length Ac1, .slice A2 n.vals.length Ac2, .slice A3 n.kids.length Ac3])] (by rfl) rfl rfl (by (try simp only [List.map_toArray, List.map_cons, List.map_nil]); first | done | rfl) ?_
    refine (HS1.out _ _ (hn.out.below sx2).at_).mono ?_
    rintro r x3 ⟨rfl, qz⟩
    replace qp := hid (qp.out.below qz)
    have sx3 := below_then sx2 sx2.size qz
    clear qz
    refine ⟨_, rfl, ?_⟩
    refine hK.out _ _ sx3 (fun hHeld => ?_)
    clear hK K
    refine norm_ (a' := ?_) ?_ ?_
    rotate_left
    · show Act.put _ (some 39) _ = _
      simp only [Act.put, List.setIfInBounds_toArray, List.set_cons_zero, List.set_cons_succ, i64_w, i32_w]
      rfl
    refine pure_ (i := 7) (N := some 40) (v := ?_) (a' := ?_) #[true, true, true, true, true, true, true, true, false] rfl rfl (by kernel_rfl) (fun _ _ _ h => h) (Or.inl ⟨by rfl, ?_⟩) ?_ ?_
    rotate_left
    · intro w'
      go_simp
      with_reducible rfl
    rotate_left
    · simp only [Act.put, List.setIfInBounds_toArray, List.set_cons_zero, List.set_cons_succ, i64_w, i32_w]
      rfl
    refine pure_ (i := 8) (N := some 11) (v := ?_) (a' := ?_) #[true, true, true, true, true, true, true, true, true] rfl rfl (by kernel_rfl) (fun _ _ _ h => h) (Or.inl ⟨by rfl, ?_⟩) ?_ ?_
    rotate_left
    · intro w'
      go_simp
      with_reducible rfl
    rotate_left
    · simp only [Act.put, List.setIfInBounds_toArray, List.set_cons_zero, List.set_cons_succ, i64_w, i32_w]
      rfl
    refine done_ (by kernel_rfl) ?_
    replace hn := hid (hn.out.below sx3)
    replace hB := hid (below_then hB.out hB.out.size sx3)
    clear hHeld sx1 sx2 sx3 qp
    clear d0 d1 d2 d3
    clear HP HS1 HS2 HF
    generalize hmo : wrap64 (S1 - S0) = mo at *
    replace hmo := hid hmo
    go_upto_region 9 with fail
    generalize hwa : wrap64 (9 + (v.size : Int)) = wa at *
    replace hwa := hid hwa
    have d0 : x3.cell? ⟨gn, 0, none⟩ = some (.bool n.leaf) := (blk_cell hn.out.box 0).trans rfl
    have d1 : x3.cell? ⟨gn, 1, none⟩ = some (.slice A1 n.keys.length Ac1) := (blk_cell hn.out.box 1).trans rfl
    have d2 : x3.cell? ⟨gn, 2, none⟩ = some (.slice A2 n.vals.length Ac2) := (blk_cell hn.out.box 2).trans rfl
    have d3 : x3.cell? ⟨gn, 3, none⟩ = some (.slice A3 n.kids.length Ac3) := (blk_cell hn.out.box 3).trans rfl
    go_cut [51] (fun s51 wx => s51 = .bool t ∧ x3 = wx)
    case first =>
      cases t with
      | false =>
        clear z1 z2 z3 z4 z5 z6
        go_wp2_with fail
        go_meet
        exact ⟨rfl, rfl⟩
      | true =>
        have g1 : (q : Int) < (n.vals.length : Int) := by have := (z5.out rfl).1; have := nn2.out; omega
        clear z1 z2 z3 z4 z5 z6
        go_wp2_with fail
        go_meet
        exact ⟨rfl, rfl⟩
    case rest =>
      obtain ⟨rfl, rfl⟩ := hcut
      go_upto_if 51 with fail
      go_cut [12] (fun s12 wx => s12 = .int .i64 mo ∧ x3 = wx)
      case first =>
        cases t with
        | false =>
          have em : wa = mo := by rw [← hmo.out, ← hwa.out, z1.out rfl]; congr 1; omega
          subst em
          clear z1 z2 z3 z4 z5 z6
          go_wp2_with fail
          go_meet
          exact ⟨rfl, rfl⟩
        | true =>
          have g1 : (q : Int) < (n.vals.length : Int) := by have := (z5.out rfl).1; have := nn2.out; omega
          obtain ⟨ak, hA2, hck⟩ := hn.out.at_.val q (by omega)
          subst hA2
          have em := hid (show mo = wrap64 ((v.size : Int) - ((n.vals.getD q ⟨#[]⟩).size : Int)) by rw [← hmo.out, z2.out rfl]; congr 1; omega)
          generalize n.vals.getD q ⟨#[]⟩ = vq at *
          clear z1 z2 z3 z4 z5 z6
          go_wp2_with fail
          go_meet
          exact ⟨by rw [em.out], rfl⟩
      case rest =>
        obtain ⟨rfl, rfl⟩ := hcut
        clear z1 z2 hmo hwa d0 d1 d2 d3 hn
        go_upto_region 12 with (first | ((with_reducible refine Calls.mono (HB.out _ hB.out) ?_); rintro r w5 ⟨v0, rfl, q0, hb_⟩; obtain ⟨B1, Bc1, B2, Bc2, B3, Bc3, rfl, q1, q2, q3⟩ := q0; have hb := hid (Boxed.new (show At w5 (.agg #[.bool b.leaf, .slice B1 b.keys.length Bc1, .slice B2 b.vals.length Bc2, .slice B3 b.kids.length Bc3]) b from ⟨B1, Bc1, B2, Bc2, B3, Bc3, rfl, q1, q2, q3⟩)); clear q1 q2 q3; replace hB := hid (below_then hB.out hB.out.size hb_); skip; replace hB := hid (below_alloc hB.out (.cells #[.bool b.leaf, .slice B1 b.keys.length Bc1, .slice B2 b.vals.length Bc2, .slice B3 b.kids.length Bc3] 29)); clear hb_))
        change Code.wp _ _ _ _ (w5.alloc (.cells #[.bool b.leaf, .slice B1 b.keys.length Bc1, .slice B2 b.vals.length Bc2, .slice B3 b.kids.length Bc3] 29))
        generalize w5.alloc (.cells #[.bool b.leaf, .slice B1 b.keys.length Bc1, .slice B2 b.vals.length Bc2, .slice B3 b.kids.length Bc3] 29) = w6 at *
        have lhb := hid hb.out.lt
        generalize w5.heap.size = gb at *
        clear HB
        have f0 : w6.cell? ⟨gb, 0, none⟩ = some (.bool b.leaf) := (blk_cell hb.out.box 0).trans rfl
        have f1 : w6.cell? ⟨gb, 1, none⟩ = some (.slice B1 b.keys.length Bc1) := (blk_cell hb.out.box 1).trans rfl
        have f2 : w6.cell? ⟨gb, 2, none⟩ = some (.slice B2 b.vals.length Bc2) := (blk_cell hb.out.box 2).trans rfl
        have f3 : w6.cell? ⟨gb, 3, none⟩ = some (.slice B3 b.kids.length Bc3) := (blk_cell hb.out.box 3).trans rfl
        go_upto_region 13 with (first | ((with_reducible refine Calls.mono (HFb.out _ _ hb.out.at_) ?_); rintro r w7 ⟨rfl, hb_⟩; replace hb := hid (hb.out.below hb_); replace hB := hid (below_then hB.out hB.out.size hb_); clear hb_))
        clear f0 f1 f2 f3
        have f0 : w7.cell? ⟨gb, 0, none⟩ = some (.bool b.leaf) := (blk_cell hb.out.box 0).trans rfl
        have f1 : w7.cell? ⟨gb, 1, none⟩ = some (.slice B1 b.keys.length Bc1) := (blk_cell hb.out.box 1).trans rfl
        have f2 : w7.cell? ⟨gb, 2, none⟩ = some (.slice B2 b.vals.length Bc2) := (blk_cell hb.out.box 2).trans rfl
        have f3 : w7.cell? ⟨gb, 3, none⟩ = some (.slice B3 b.kids.length Bc3) := (blk_cell hb.out.box 3).trans rfl
        refine start_ (n := 9) (S := fun w' => Below w7.heap.size w7 w') (ds := []) #[false, false, false, false, false, false, false, false, false] (by kernel_rfl) rfl rfl (below_drew (Below.refl _ _)) (fun hHeld => ?_)
        refine take_ (i := 0) (N := some 69) (v := ?_) (a' := ?_) #[true, false, false, false, false, false, false, false, false] rfl rfl (by kernel_rfl) (fun _ _ _ h => h) (Or.inl ⟨by rfl, ?_⟩) hHeld ?_ ?_
        rotate_left
        · rintro w' hb'
          have dd0 := pw_cell_below hb' f0
          have dd1 := pw_cell_below hb' f1
          have dd2 := pw_cell_below hb' f2
          have dd3 := pw_cell_below hb' f3
          go_simp
          with_reducible rfl
        rotate_left
        · simp only [Act.put, List.setIfInBounds_toArray, List.set_cons_zero, List.set_cons_succ, i64_w, i32_w]
          rfl
        refine pure_ (i := 1) (N := some 70) (v := ?_) (a' := ?_) #[true, true, false, false, false, false, false, false, false] rfl rfl (by kernel_rfl) (fun _ _ _ h => h) (Or.inl ⟨by rfl, ?_⟩) ?_ ?_
        rotate_left
        · intro w'
          go_simp
          with_reducible rfl
        rotate_left
        · simp only [Act.put, List.setIfInBounds_toArray, List.set_cons_zero, List.set_cons_succ, i64_w, i32_w]
          rfl
        refine pure_ (i := 2) (N := some 71) (v := ?_) (a' := ?_) #[true, true, true, false, false, false, false, false, false] rfl rfl (by kernel_rfl) (fun _ _ _ h => h) (Or.inl ⟨by rfl, ?_⟩) ?_ ?_
        rotate_left
        · intro w'
          go_simp
          with_reducible rfl
        rotate_left
        · simp only [Act.put, List.setIfInBounds_toArray, List.set_cons_zero, List.set_cons_succ, i64_w, i32_w]
          rfl
        refine take_ (i := 5) (N := some 74) (v := ?_) (a' := ?_) #[true, true, true, false, false, true, false, false, false] rfl rfl (by kernel_rfl) (fun _ _ _ h => h) (Or.inl ⟨by rfl, ?_⟩) hHeld ?_ ?_
        rotate_left
        · rintro w' hb'
          have dd0 := pw_cell_below hb' f0
          have dd1 := pw_cell_below hb' f1
          have dd2 := pw_cell_below hb' f2
          have dd3 := pw_cell_below hb' f3
          go_simp
          with_reducible rfl
        rotate_left
        · simp only [Act.put, List.setIfInBounds_toArray, List.set_cons_zero, List.set_cons_succ, i64_w, i32_w]
          rfl
        refine one_ (i := 3) (N := some 72) #[true, true, true, true, false, true, false, false, false] rfl rfl (by kernel_rfl) (by decide) (fun K hK => ?_)
        refine goes_ Try.func13 (by kernel_rfl) rfl #[(.agg #[.bool b.leaf, .slice B1 b.keys.length Bc1, .slice B2 b.vals.length Bc2, .slice B3 b.kids.length Bc3]), .int .i64 (p : Int), .int .u64 key, .int .i64 9] (by rfl) rfl rfl (by (try simp only [List.map_toArray, List.map_cons, List.map_nil]); first | done | rfl) ?_
        refine (HH.out _ _ (hb.out.below (below_drew (Below.refl _ _))).at_).mono ?_
        rintro r y1 ⟨vh, rfl, qh, qz⟩
        replace qh := hid qh
        have sy1 := below_then (below_drew (Below.refl _ _)) (Nat.le_refl _) qz
        clear qz
        refine ⟨_, rfl, ?_⟩
        refine hK.out _ _ sy1 (fun hHeld => ?_)
        clear hK K
        refine norm_ (a' := ?_) ?_ ?_
        rotate_left
        · show Act.put _ (some 72) _ = _
          simp only [Act.put, List.setIfInBounds_toArray, List.set_cons_zero, List.set_cons_succ, i64_w, i32_w]
          rfl
        refine one_ (i := 4) (N := some 73) #[true, true, true, true, true, true, false, false, false] rfl rfl (by kernel_rfl) (by decide) (fun K hK => ?_)
        refine goes_ Try.func20 (by kernel_rfl) rfl #[vh] (by rfl) rfl rfl (by (try simp only [List.map_toArray, List.map_cons, List.map_nil]); first | done | rfl) ?_
        refine (HS4.out _ _ qh.out).mono ?_
        rintro r y2 ⟨rfl, qz⟩
        replace qh := hid (qh.out.below qz)
        have sy2 := below_then sy1 sy1.size qz
        clear qz
        refine ⟨_, rfl, ?_⟩
        refine hK.out _ _ sy2 (fun hHeld => ?_)
        clear hK K
        refine norm_ (a' := ?_) ?_ ?_
        rotate_left
        · show Act.put _ (some 73) _ = _
          simp only [Act.put, List.setIfInBounds_toArray, List.set_cons_zero, List.set_cons_succ, i64_w, i32_w]
          rfl
        refine one_ (i := 6) (N := some 75) #[true, true, true, true, true, true, true, false, false] rfl rfl (by kernel_rfl) (by decide) (fun K hK => ?_)
        refine goes_ Try.func20 (by kernel_rfl) rfl #[(.agg #[.bool b.leaf, .slice B1 b.keys.length Bc1, .slice B2 b.vals.length Bc2, .slice B3 b.kids.length Bc3])] (by rfl) rfl rfl (by (try simp only [List.map_toArray, List.map_cons, List.map_nil]); first | done | rfl) ?_
        refine (HS3.out _ _ (hb.out.below sy2).at_).mono ?_
        rintro r y3 ⟨rfl, qz⟩
        replace qh := hid (qh.out.below qz)
        have sy3 := below_then sy2 sy2.size qz
        clear qz
        refine ⟨_, rfl, ?_⟩
        refine hK.out _ _ sy3 (fun hHeld => ?_)
        clear hK K
        refine norm_ (a' := ?_) ?_ ?_
        rotate_left
        · show Act.put _ (some 75) _ = _
          simp only [Act.put, List.setIfInBounds_toArray, List.set_cons_zero, List.set_cons_succ, i64_w, i32_w]
          rfl
        refine pure_ (i := 7) (N := some 76) (v := ?_) (a' := ?_) #[true, true, true, true, true, true, true, true, false] rfl rfl (by kernel_rfl) (fun _ _ _ h => h) (Or.inl ⟨by rfl, ?_⟩) ?_ ?_
        rotate_left
        · intro w'
          go_simp
          with_reducible rfl
        rotate_left
        · simp only [Act.put, List.setIfInBounds_toArray, List.set_cons_zero, List.set_cons_succ, i64_w, i32_w]
          rfl
        refine pure_ (i := 8) (N := some 16) (v := ?_) (a' := ?_) #[true, true, true, true, true, true, true, true, true] rfl rfl (by kernel_rfl) (fun _ _ _ h => h) (Or.inl ⟨by rfl, ?_⟩) ?_ ?_
        rotate_left
        · intro w'
          go_simp
          with_reducible rfl
        rotate_left
        · simp only [Act.put, List.setIfInBounds_toArray, List.set_cons_zero, List.set_cons_succ, i64_w, i32_w]
          rfl
        refine done_ (by kernel_rfl) ?_
        replace hb := hid (hb.out.below sy3)
        replace hB := hid (below_then hB.out hB.out.size sy3)
        clear hHeld sy1 sy2 sy3 qh
        clear f0 f1 f2 f3
        generalize hm3 : wrap64 (S3 - S2) = m3 at *
        obtain rfl : m3 = 10 := by rw [← hm3, z3.out, show S2 + 10 - S2 = 10 by omega]; exact wr64 10 (by omega) (by omega)
        obtain rfl : S2 = wrap64 (3 + wrap64 (10 * (b.keys.length : Int))) := by
          have hh := nb1.out
          rw [wr64 (10 * _) (by omega) (by omega), wr64 (3 + _) (by omega) (by omega)]
          exact z4.out
        clear hm3 z3 z4 z5 z6
        go_upto_region 14 with fail
        have f0 : y3.cell? ⟨gb, 0, none⟩ = some (.bool b.leaf) := (blk_cell hb.out.box 0).trans rfl
        have f1 : y3.cell? ⟨gb, 1, none⟩ = some (.slice B1 b.keys.length Bc1) := (blk_cell hb.out.box 1).trans rfl
        have f2 : y3.cell? ⟨gb, 2, none⟩ = some (.slice B2 b.vals.length Bc2) := (blk_cell hb.out.box 2).trans rfl
        have f3 : y3.cell? ⟨gb, 3, none⟩ = some (.slice B3 b.kids.length Bc3) := (blk_cell hb.out.box 3).trans rfl
        refine start_ (n := 21) (S := fun w' => Below y3.heap.size y3 w') (ds := []) #[false, false, false, false, false, false, false, false, false, false, false, false, false, false, false, false, false, false, false, false, false] (by kernel_rfl) rfl rfl (below_drew (Below.refl _ _)) (fun hHeld => ?_)
        refine pure_ (i := 0) (N := some 77) (v := ?_) (a' := ?_) #[true, false, false, false, false, false, false, false, false, false, false, false, false, false, false, false, false, false, false, false, false] rfl rfl (by kernel_rfl) (fun _ _ _ h => h) (Or.inl ⟨by rfl, ?_⟩) ?_ ?_
        rotate_left
        · intro w'
          go_simp
          with_reducible rfl
        rotate_left
        · simp only [Act.put, List.setIfInBounds_toArray, List.set_cons_zero, List.set_cons_succ, i64_w, i32_w]
          rfl
        refine pure_ (i := 1) (N := some 78) (v := ?_) (a' := ?_) #[true, true, false, false, false, false, false, false, false, false, false, false, false, false, false, false, false, false, false, false, false] rfl rfl (by kernel_rfl) (fun _ _ _ h => h) (Or.inl ⟨by rfl, ?_⟩) ?_ ?_
        rotate_left
        · intro w'
          go_simp
          with_reducible rfl
        rotate_left
        · simp only [Act.put, List.setIfInBounds_toArray, List.set_cons_zero, List.set_cons_succ, i64_w, i32_w]
          rfl
        refine pure_ (i := 2) (N := some 79) (v := ?_) (a' := ?_) #[true, true, true, false, false, false, false, false, false, false, false, false, false, false, false, false, false, false, false, false, false] rfl rfl (by kernel_rfl) (fun _ _ _ h => h) (Or.inl ⟨by rfl, ?_⟩) ?_ ?_
        rotate_left
        · intro w'
          go_simp
          with_reducible rfl
        rotate_left
        · simp only [Act.put, List.setIfInBounds_toArray, List.set_cons_zero, List.set_cons_succ, i64_w, i32_w]
          rfl
        refine pure_ (i := 3) (N := some 80) (v := ?_) (a' := ?_) #[true, true, true, true, false, false, false, false, false, false, false, false, false, false, false, false, false, false, false, false, false] rfl rfl (by kernel_rfl) (fun _ _ _ h => h) (Or.inl ⟨by rfl, ?_⟩) ?_ ?_
        rotate_left
        · intro w'
          go_simp
          with_reducible rfl
        rotate_left
        · simp only [Act.put, List.setIfInBounds_toArray, List.set_cons_zero, List.set_cons_succ, i64_w, i32_w]
          rfl
        refine pure_ (i := 4) (N := some 81) (v := ?_) (a' := ?_) #[true, true, true, true, true, false, false, false, false, false, false, false, false, false, false, false, false, false, false, false, false] rfl rfl (by kernel_rfl) (fun _ _ _ h => h) (Or.inl ⟨by rfl, ?_⟩) ?_ ?_
        rotate_left
        · intro w'
          go_simp
          with_reducible rfl
        rotate_left
        · simp only [Act.put, List.setIfInBounds_toArray, List.set_cons_zero, List.set_cons_succ, i64_w, i32_w]
          rfl
        refine pure_ (i := 5) (N := some 82) (v := ?_) (a' := ?_) #[true, true, true, true, true, true, false, false, false, false, false, false, false, false, false, false, false, false, false, false, false] rfl rfl (by kernel_rfl) (fun _ _ _ h => h) (Or.inl ⟨by rfl, ?_⟩) ?_ ?_
        rotate_left
        · intro w'
          go_simp
          with_reducible rfl
        rotate_left
        · simp only [Act.put, List.setIfInBounds_toArray, List.set_cons_zero, List.set_cons_succ, i64_w, i32_w]
          rfl
        refine pure_ (i := 6) (N := some 83) (v := ?_) (a' := ?_) #[true, true, true, true, true, true, true, false, false, false, false, false, false, false, false, false, false, false, false, false, false] rfl rfl (by kernel_rfl) (fun _ _ _ h => h) (Or.inl ⟨by rfl, ?_⟩) ?_ ?_
        rotate_left
        · intro w'
          go_simp
          with_reducible rfl
        rotate_left
        · simp only [Act.put, List.setIfInBounds_toArray, List.set_cons_zero, List.set_cons_succ, i64_w, i32_w]
          rfl
        refine pure_ (i := 7) (N := some 84) (v := ?_) (a' := ?_) #[true, true, true, true, true, true, true, true, false, false, false, false, false, false, false, false, false, false, false, false, false] rfl rfl (by kernel_rfl) (fun _ _ _ h => h) (Or.inl ⟨by rfl, ?_⟩) ?_ ?_
        rotate_left
        · intro w'
          go_simp
          with_reducible rfl
        rotate_left
        · simp only [Act.put, List.setIfInBounds_toArray, List.set_cons_zero, List.set_cons_succ, i64_w, i32_w]
          rfl
        refine pure_ (i := 8) (N := some 85) (v := ?_) (a' := ?_) #[true, true, true, true, true, true, true, true, true, false, false, false, false, false, false, false, false, false, false, false, false] rfl rfl (by kernel_rfl) (fun _ _ _ h => h) (Or.inl ⟨by rfl, ?_⟩) ?_ ?_
        rotate_left
        · intro w'
          go_simp
          with_reducible rfl
        rotate_left
        · simp only [Act.put, List.setIfInBounds_toArray, List.set_cons_zero, List.set_cons_succ, i64_w, i32_w]
          rfl
        refine pure_ (i := 9) (N := some 86) (v := ?_) (a' := ?_) #[true, true, true, true, true, true, true, true, true, true, false, false, false, false, false, false, false, false, false, false, false] rfl rfl (by kernel_rfl) (fun _ _ _ h => h) (Or.inl ⟨by rfl, ?_⟩) ?_ ?_
        rotate_left
        · intro w'
          go_simp
          with_reducible rfl
        rotate_left
        · simp only [Act.put, List.setIfInBounds_toArray, List.set_cons_zero, List.set_cons_succ, i64_w, i32_w]
          rfl
        refine pure_ (i := 10) (N := some 87) (v := ?_) (a' := ?_) #[true, true, true, true, true, true, true, true, true, true, true, false, false, false, false, false, false, false, false, false, false] rfl rfl (by kernel_rfl) (fun _ _ _ h => h) (Or.inl ⟨by rfl, ?_⟩) ?_ ?_
        rotate_left
        · intro w'
          go_simp
          with_reducible rfl
        rotate_left
        · simp only [Act.put, List.setIfInBounds_toArray, List.set_cons_zero, List.set_cons_succ, i64_w, i32_w]
          rfl
        refine take_ (i := 11) (N := some 88) (v := ?_) (a' := ?_) #[true, true, true, true, true, true, true, true, true, true, true, true, false, false, false, false, false, false, false, false, false] rfl rfl (by kernel_rfl) (fun _ _ _ h => h) (Or.inl ⟨by rfl, ?_⟩) hHeld ?_ ?_
        rotate_left
        · rintro w' hb'
          have dd0 := pw_cell_below hb' f0
          have dd1 := pw_cell_below hb' f1
          have dd2 := pw_cell_below hb' f2
          have dd3 := pw_cell_below hb' f3
          go_simp
          with_reducible rfl
        rotate_left
        · simp only [Act.put, List.setIfInBounds_toArray, List.set_cons_zero, List.set_cons_succ, i64_w, i32_w]
          rfl
        refine pure_ (i := 13) (N := some 90) (v := ?_) (a' := ?_) #[true, true, true, true, true, true, true, true, true, true, true, true, false, true, false, false, false, false, false, false, false] rfl rfl (by kernel_rfl) (fun _ _ _ h => h) (Or.inl ⟨by rfl, ?_⟩) ?_ ?_
        rotate_left
        · intro w'
          go_simp
          with_reducible rfl
        rotate_left
        · simp only [Act.put, List.setIfInBounds_toArray, List.set_cons_zero, List.set_cons_succ, i64_w, i32_w]
          rfl
        refine take_ (i := 14) (N := some 91) (v := ?_) (a' := ?_) #[true, true, true, true, true, true, true, true, true, true, true, true, false, true, true, false, false, false, false, false, false] rfl rfl (by kernel_rfl) (fun _ _ _ h => h) (Or.inl ⟨by rfl, ?_⟩) hHeld ?_ ?_
        rotate_left
        · rintro w' hb'
          have dd := pw_cell_below hb' f1
          go_simp
          with_reducible rfl
        rotate_left
        · simp only [Act.put, List.setIfInBounds_toArray, List.set_cons_zero, List.set_cons_succ, i64_w, i32_w]
          rfl
        refine pure_ (i := 15) (N := some 92) (v := ?_) (a' := ?_) #[true, true, true, true, true, true, true, true, true, true, true, true, false, true, true, true, false, false, false, false, false] rfl rfl (by kernel_rfl) (fun _ _ _ h => h) (Or.inl ⟨by rfl, ?_⟩) ?_ ?_
        rotate_left
        · intro w'
          go_simp
          with_reducible rfl
        rotate_left
        · simp only [Act.put, List.setIfInBounds_toArray, List.set_cons_zero, List.set_cons_succ, i64_w, i32_w]
          rfl
        refine pure_ (i := 16) (N := some 93) (v := ?_) (a' := ?_) #[true, true, true, true, true, true, true, true, true, true, true, true, false, true, true, true, true, false, false, false, false] rfl rfl (by kernel_rfl) (fun _ _ _ h => h) (Or.inl ⟨by rfl, ?_⟩) ?_ ?_
        rotate_left
        · intro w'
          go_simp
          with_reducible rfl
        rotate_left
        · simp only [Act.put, List.setIfInBounds_toArray, List.set_cons_zero, List.set_cons_succ, i64_w, i32_w]
          rfl
        refine pure_ (i := 17) (N := some 94) (v := ?_) (a' := ?_) #[true, true, true, true, true, true, true, true, true, true, true, true, false, true, true, true, true, true, false, false, false] rfl rfl (by kernel_rfl) (fun _ _ _ h => h) (Or.inl ⟨by rfl, ?_⟩) ?_ ?_
        rotate_left
        · intro w'
          go_simp
          with_reducible rfl
        rotate_left
        · simp only [Act.put, List.setIfInBounds_toArray, List.set_cons_zero, List.set_cons_succ, i64_w, i32_w]
          rfl
        refine one_ (i := 12) (N := some 89) #[true, true, true, true, true, true, true, true, true, true, true, true, true, true, true, true, true, true, false, false, false] rfl rfl (by kernel_rfl) (by decide) (fun K hK => ?_)
        refine goes_ Try.func20 (by kernel_rfl) rfl #[(.agg #[.bool b.leaf, .slice B1 b.keys.length Bc1, .slice B2 b.vals.length Bc2, .slice B3 b.kids.length Bc3])] (by rfl) rfl rfl (by (try simp only [List.map_toArray, List.map_cons, List.map_nil]); first | done | rfl) ?_
        refine (HS3.out _ _ (hb.out.below (below_drew (Below.refl _ _))).at_).mono ?_
        rintro r z1 ⟨rfl, qz⟩
        have sz1 := below_then (below_drew (Below.refl _ _)) (Nat.le_refl _) qz
        clear qz
        refine ⟨_, rfl, ?_⟩
        refine hK.out _ _ sz1 (fun hHeld => ?_)
        clear hK K
        refine norm_ (a' := ?_) ?_ ?_
        rotate_left
        · show Act.put _ (some 89) _ = _
          simp only [Act.put, List.setIfInBounds_toArray, List.set_cons_zero, List.set_cons_succ, i64_w, i32_w]
          rfl
        refine pure_ (i := 18) (N := some 95) (v := ?_) (a' := ?_) #[true, true, true, true, true, true, true, true, true, true, true, true, true, true, true, true, true, true, true, false, false] rfl rfl (by kernel_rfl) (fun _ _ _ h => h) (Or.inl ⟨by rfl, ?_⟩) ?_ ?_
        rotate_left
        · intro w'
          go_simp
          with_reducible rfl
        rotate_left
        · simp only [Act.put, List.setIfInBounds_toArray, List.set_cons_zero, List.set_cons_succ, i64_w, i32_w]
          rfl
        refine pure_ (i := 19) (N := some 96) (v := ?_) (a' := ?_) #[true, true, true, true, true, true, true, true, true, true, true, true, true, true, true, true, true, true, true, true, false] rfl rfl (by kernel_rfl) (fun _ _ _ h => h) (Or.inl ⟨by rfl, ?_⟩) ?_ ?_
        rotate_left
        · intro w'
          go_simp
          with_reducible rfl
        rotate_left
        · simp only [Act.put, List.setIfInBounds_toArray, List.set_cons_zero, List.set_cons_succ, i64_w, i32_w]
          rfl
        refine pure_ (i := 20) (N := some 6) (v := ?_) (a' := ?_) #[true, true, true, true, true, true, true, true, true, true, true, true, true, true, true, true, true, true, true, true, true] rfl rfl (by kernel_rfl) (fun _ _ _ h => h) (Or.inl ⟨by rfl, ?_⟩) ?_ ?_
        rotate_left
        · intro w'
          go_simp
          with_reducible rfl
        rotate_left
        · simp only [Act.put, List.setIfInBounds_toArray, List.set_cons_zero, List.set_cons_succ, i64_w, i32_w]
          rfl
        refine done_ (by kernel_rfl) ?_
        replace hb := hid (hb.out.below sz1)
        replace hB := hid (below_then hB.out hB.out.size sz1)
        clear hHeld sz1 
        clear f0 f1 f2 f3
        go_wp2_with fail
        go_ret
        exact ⟨rfl, hB.out⟩
end Go.Proofs.Ytnghbfegijnolaa.A
