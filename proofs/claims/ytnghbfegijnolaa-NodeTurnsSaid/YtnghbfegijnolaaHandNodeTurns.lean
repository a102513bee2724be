/-
  NodeTurns, walked.
-/
import Derived.Test.YtnghbfegijnolaaAe
import Derived.Test.YtnghbfegijnolaaR3
namespace Go.Proofs.Ytnghbfegijnolaa.A
set_option linter.unusedVariables false
set_option linter.unusedSimpArgs false
open Go.RowKit Go.Proofs.YtnghbfegijnolaaW.PrintWords Go.Proofs.YtnghbfegijnolaaW.PrintLast Go.Proofs.YtnghbfegijnolaaW.PrintMore
open Go.Lib (hid)
theorem few_few (x : Nd) : fewF (fewF x) = fewF x := by
  simp only [fewF, List.take_take, Nat.min_self]
theorem few_len (x : Nd) : (fewF x).keys.length ≤ 30 ∧ (fewF x).vals.length ≤ 30 ∧ (fewF x).kids.length ≤ 31 := by
  simp only [fewF, List.length_take]
  omega
structure Len (x : Nd) : Prop where
  k1 : x.keys.length ≤ 1099511627776
  k2 : x.vals.length ≤ 1099511627776
  k3 : x.kids.length ≤ 1099511627776
theorem put_lens (x : Nd) (key : Int) (v : ByteArray) (h : x.keys.length ≤ 30 ∧ x.vals.length ≤ 30 ∧ x.kids.length ≤ 31) : Len (putF x key v) := by
  unfold putF
  split
  · have e1 := laidF_len x.keys [key] (place x.keys key) (goneF (isAt x.keys key))
    have e2 := laidF_len x.vals [v] (place x.keys key) (goneF (isAt x.keys key))
    simp only [List.length_singleton] at e1 e2
    exact ⟨by show (laidF _ _ _ _).length ≤ _; omega, by show (laidF _ _ _ _).length ≤ _; omega, Nat.zero_le _⟩
  · exact ⟨by omega, by omega, by omega⟩
theorem without_lens (x : Nd) (i : Int) (h : x.keys.length ≤ 30 ∧ x.vals.length ≤ 30 ∧ x.kids.length ≤ 31) : Len (withoutF x i) := by
  unfold withoutF
  split
  · have e1 := laidF_len x.keys [] i.toNat 1
    have e2 := laidF_len x.vals [] i.toNat 1
    simp only [List.length_nil] at e1 e2
    exact ⟨by show (laidF _ _ _ _).length ≤ _; omega, by show (laidF _ _ _ _).length ≤ _; omega, Nat.zero_le _⟩
  · exact ⟨by omega, by omega, by omega⟩
theorem hang_lens (x : Nd) (i key kid : Int) (h : x.keys.length ≤ 30 ∧ x.vals.length ≤ 30 ∧ x.kids.length ≤ 31) : Len (hangF x i key kid) := by
  unfold hangF
  split
  · have e1 := laidF_len x.keys [key] i.toNat 0
    have e2 := laidF_len x.kids [kid] (i.toNat + 1) 0
    simp only [List.length_singleton] at e1 e2
    exact ⟨by show (laidF _ _ _ _).length ≤ _; omega, Nat.zero_le _, by show (laidF _ _ _ _).length ≤ _; omega⟩
  · exact ⟨by omega, by omega, by omega⟩
theorem unhang_lens (x : Nd) (i : Int) (h : x.keys.length ≤ 30 ∧ x.vals.length ≤ 30 ∧ x.kids.length ≤ 31) : Len (unhangF x i) := by
  unfold unhangF
  split
  · have e1 := laidF_len x.keys [] i.toNat 1
    have e2 := laidF_len x.kids [] (i.toNat + 1) 1
    simp only [List.length_nil] at e1 e2
    exact ⟨by show (laidF _ _ _ _).length ≤ _; omega, Nat.zero_le _, by show (laidF _ _ _ _).length ≤ _; omega⟩
  · exact ⟨by omega, by omega, by omega⟩
theorem nodes_refl (x : Nd) (h : Len x) (v u : Value) (w : World) (H : At w v x) (H' : At w u x) : Calls Try.prog 14 #[v, u] w fun e w' => e = .returned (.bool true) ∧ Below w.heap.size w w' := by
  have z := nodes_walk x x v u w H H' h.k1 h.k2 h.k3
  rw [same_refl] at z
  exact z
theorem Boxed.set4 {W : World} {g : Nat} {x y : Nd} {b : Bool} {a1 a2 a3 : Option Addr} {n1 n2 n3 d1 d2 d3 : Nat} (h : Boxed W g #[.bool b, .slice a1 n1 d1, .slice a2 n2 d2, .slice a3 n3 d3] x) {v0 v1 v2 v3 : Value} (H : At W (.agg #[v0, v1, v2, v3]) y) : Boxed (set4 W g v0 v1 v2 v3) g #[v0, v1, v2, v3] y :=
  ⟨set4_at h.box v0 v1 v2 v3, At.set4 H h.box v0 v1 v2 v3⟩
set_option maxHeartbeats 1000000 in
set_option maxRecDepth 100000 in
theorem NodeTurns_walk (x : Nd) (a0 : Value) (key : Int) (s : ByteArray) (i kid : Int) (w : World) (H : At w a0 x) :
    Calls Try.prog 7 #[a0, .int .u64 key, .string s, .int .i64 i, .int .i64 kid] w fun e w' => e = .returned (.bool true) ∧ Below w.heap.size w w' := by
  have hv := cut40_le s
  have ec : Hid (s.extract 0 (min (s.size : Int) 40).toNat = cut40 s) := hid (by rw [cut40, show (min (s.size : Int) 40).toNat = min s.size 40 by omega])
  generalize cut40 s = v at *
  have HE := hid (fun W => examples_walk W)
  have HF0 := hid (fun u W (h : At W u x) => few_walk x u W h)
  have hl := few_len x
  have HF1 := hid (fun u W (h : At W u (fewF x)) => few_walk (fewF x) u W h)
  rw [few_few] at HF1
  generalize fewF x = n at *
  have HF := hid (fun u W (h : At W u n) => find_walk n u key W h (by omega))
  have HP := hid (fun u W (h : At W u n) => put_walk n u key v W h (by omega) (by omega))
  have HW := hid (fun u W (h : At W u n) => without_walk n u i W h (by omega) (by omega) (by omega))
  have HH := hid (fun u W (h : At W u n) => hang_walk n u i key kid W h (by omega) (by omega))
  have HU := hid (fun u W (h : At W u n) => unhang_walk n u i W h (by omega) (by omega) (by omega))
  have HR := hid (fun u W h => ref_walk n u W h)
  obtain ⟨b, hb0, hbp⟩ := rplain_walk n (by omega) (by omega) (by omega)
  replace hbp := hid hbp
  have Hf := hid (fun (P : PlainNd n) u W (h : At W u n) => rfind_walk n u key W P.rise h (by omega))
  have Hp := hid (fun (P : PlainNd n) u W (h : At W u n) => rput_walk n u key v W P h (by omega) (by omega) (by omega))
  have Hw := hid (fun (P : PlainNd n) u W (h : At W u n) => rwithout_walk n u i W P h (by omega) (by omega) (by omega))
  have Hh := hid (fun (P : PlainNd n) u W (h : At W u n) => rhang_walk n u i key kid W P h (by omega) (by omega) (by omega))
  have Hu := hid (fun (P : PlainNd n) u W (h : At W u n) => runhang_walk n u i W P h (by omega) (by omega) (by omega))
  have HSp := hid (nodes_refl (putF n key v) (put_lens n key v hl))
  have HSw := hid (nodes_refl (withoutF n i) (without_lens n i hl))
  have HSh := hid (nodes_refl (hangF n i key kid) (hang_lens n i key kid hl))
  have HSu := hid (nodes_refl (unhangF n i) (unhang_lens n i hl))
  have HSn := hid (nodes_refl n ⟨by omega, by omega, by omega⟩)
  generalize putF n key v = p at *
  generalize withoutF n i = u at *
  generalize hangF n i key kid = h at *
  generalize unhangF n i = z at *
  generalize (findF n key).1 = q1 at *
  generalize (findF n key).2 = q2 at *
  clear hl hv
  replace hb0 := hid hb0
  obtain ⟨C1, Cc1, C2, Cc2, C3, Cc3, rfl, r1, r2, r3⟩ := H
  have hm := hid (Boxed.new (show At w (.agg #[.bool x.leaf, .slice C1 x.keys.length Cc1, .slice C2 x.vals.length Cc2, .slice C3 x.kids.length Cc3]) x from ⟨C1, Cc1, C2, Cc2, C3, Cc3, rfl, r1, r2, r3⟩))
  have hB := hid (below_alloc (Below.refl w.heap.size w) (.cells #[.bool x.leaf, .slice C1 x.keys.length Cc1, .slice C2 x.vals.length Cc2, .slice C3 x.kids.length Cc3] 29))
  clear r1 r2 r3
  go_enter Try.func7, Try.ntmps7
  (try dsimp only [List.append])
  go_upto_region 1 with fail
  generalize w.alloc (.cells #[.bool x.leaf, .slice C1 x.keys.length Cc1, .slice C2 x.vals.length Cc2, .slice C3 x.kids.length Cc3] 29) = w0 at *
  obtain ⟨gn, hgn⟩ : ∃ g, g = w.heap.size := ⟨_, rfl⟩
  rw [← hgn] at hm
  simp only [← hgn]
  replace hgn := hid (Nat.le_of_eq hgn.symm)
  go_upto_region 4 with (first | ((with_reducible refine Calls.mono (HE.out _) ?_); rintro r w1 ⟨rfl, hbb⟩; replace hm := hid (hm.out.below hbb); replace hB := hid (below_then hB.out hB.out.size hbb); clear hbb))
  clear HE
  have c0 : w1.cell? ⟨gn, 0, none⟩ = some (.bool x.leaf) := (blk_cell hm.out.box 0).trans rfl
  have c1 : w1.cell? ⟨gn, 1, none⟩ = some (.slice C1 x.keys.length Cc1) := (blk_cell hm.out.box 1).trans rfl
  have c2 : w1.cell? ⟨gn, 2, none⟩ = some (.slice C2 x.vals.length Cc2) := (blk_cell hm.out.box 2).trans rfl
  have c3 : w1.cell? ⟨gn, 3, none⟩ = some (.slice C3 x.kids.length Cc3) := (blk_cell hm.out.box 3).trans rfl
  go_upto_region 5 with (first | ((with_reducible refine Calls.mono (HF0.out _ _ hm.out.at_) ?_); rintro r w2 ⟨v0, rfl, q0, hbb⟩; obtain ⟨A1, Ac1, A2, Ac2, A3, Ac3, rfl, k1, k2, k3⟩ := q0; have hn := hid (show At w2 (.agg #[.bool n.leaf, .slice A1 n.keys.length Ac1, .slice A2 n.vals.length Ac2, .slice A3 n.kids.length Ac3]) n from ⟨A1, Ac1, A2, Ac2, A3, Ac3, rfl, k1, k2, k3⟩); clear k1 k2 k3 c0 c1 c2 c3; replace hm := hid (hm.out.below hbb); replace hB := hid (below_then hB.out hB.out.size hbb); clear hbb; have c0 := (blk_cell hm.out.box 0).trans rfl; have y0 := blk_frozen hm.out.box 0; have c1 := (blk_cell hm.out.box 1).trans rfl; have y1 := blk_frozen hm.out.box 1; have c2 := (blk_cell hm.out.box 2).trans rfl; have y2 := blk_frozen hm.out.box 2; have c3 := (blk_cell hm.out.box 3).trans rfl; have y3 := blk_frozen hm.out.box 3))
  clear HF0 c0 c1 c2 c3 y0 y1 y2 y3
  have hn2 := hid (Boxed.set4 hm.out hn.out)
  have hB2 := hid (set4_below hB.out hgn.out (.bool n.leaf) (.slice A1 n.keys.length Ac1) (.slice A2 n.vals.length Ac2) (.slice A3 n.kids.length Ac3))
  clear hm hn hB
  change Code.wp _ _ _ _ (set4 w2 gn (.bool n.leaf) (.slice A1 n.keys.length Ac1) (.slice A2 n.vals.length Ac2) (.slice A3 n.kids.length Ac3))
  generalize set4 w2 gn (.bool n.leaf) (.slice A1 n.keys.length Ac1) (.slice A2 n.vals.length Ac2) (.slice A3 n.kids.length Ac3) = w3 at *
  have hn := hn2
  have hB := hB2
  clear hn2 hB2
  have d0 : w3.cell? ⟨gn, 0, none⟩ = some (.bool n.leaf) := (blk_cell hn.out.box 0).trans rfl
  have d1 : w3.cell? ⟨gn, 1, none⟩ = some (.slice A1 n.keys.length Ac1) := (blk_cell hn.out.box 1).trans rfl
  have d2 : w3.cell? ⟨gn, 2, none⟩ = some (.slice A2 n.vals.length Ac2) := (blk_cell hn.out.box 2).trans rfl
  have d3 : w3.cell? ⟨gn, 3, none⟩ = some (.slice A3 n.kids.length Ac3) := (blk_cell hn.out.box 3).trans rfl
  go_upto_region 6 with (first | ((with_reducible refine Calls.mono (HF1.out _ _ hn.out.at_) ?_); rintro r w4 ⟨v0, rfl, q0, hbb⟩; obtain ⟨B1, Bc1, B2, Bc2, B3, Bc3, rfl, q1, q2, q3⟩ := q0; have ho := hid (Boxed.new (show At w4 (.agg #[.bool n.leaf, .slice B1 n.keys.length Bc1, .slice B2 n.vals.length Bc2, .slice B3 n.kids.length Bc3]) n from ⟨B1, Bc1, B2, Bc2, B3, Bc3, rfl, q1, q2, q3⟩)); clear q1 q2 q3; replace hn := hid (hn.out.below hbb); replace hB := hid (below_then hB.out hB.out.size hbb); skip; replace hn := hid (hn.out.below (below_alloc (Below.refl _ w4) (.cells #[.bool n.leaf, .slice B1 n.keys.length Bc1, .slice B2 n.vals.length Bc2, .slice B3 n.kids.length Bc3] 29))); replace hB := hid (below_alloc hB.out (.cells #[.bool n.leaf, .slice B1 n.keys.length Bc1, .slice B2 n.vals.length Bc2, .slice B3 n.kids.length Bc3] 29)); clear hbb))
  change Code.wp _ _ _ _ (w4.alloc (.cells #[.bool n.leaf, .slice B1 n.keys.length Bc1, .slice B2 n.vals.length Bc2, .slice B3 n.kids.length Bc3] 29))
  generalize w4.alloc (.cells #[.bool n.leaf, .slice B1 n.keys.length Bc1, .slice B2 n.vals.length Bc2, .slice B3 n.kids.length Bc3] 29) = w5 at *
  have lho := hid ho.out.lt
  generalize w4.heap.size = go at *
  clear HF1 d0 d1 d2 d3
  go_cut [2] (fun s2 wx => s2 = .string v ∧ w5 = wx)
  case first =>
    go_wp2_with fail
    go_meet
    exact ⟨by rw [ec.out], rfl⟩
  case rest =>
    obtain ⟨rfl, rfl⟩ := hcut
    clear ec
    have d0 : w5.cell? ⟨gn, 0, none⟩ = some (.bool n.leaf) := (blk_cell hn.out.box 0).trans rfl
    have d1 : w5.cell? ⟨gn, 1, none⟩ = some (.slice A1 n.keys.length Ac1) := (blk_cell hn.out.box 1).trans rfl
    have d2 : w5.cell? ⟨gn, 2, none⟩ = some (.slice A2 n.vals.length Ac2) := (blk_cell hn.out.box 2).trans rfl
    have d3 : w5.cell? ⟨gn, 3, none⟩ = some (.slice A3 n.kids.length Ac3) := (blk_cell hn.out.box 3).trans rfl
    go_upto_region 8 with (first | ((with_reducible refine Calls.mono (HF.out _ _ hn.out.at_) ?_); rintro r w6 ⟨rfl, hbb⟩; replace hn := hid (hn.out.below hbb); replace ho := hid (ho.out.below hbb); replace hB := hid (below_then hB.out hB.out.size hbb); clear hbb))
    clear HF d0 d1 d2 d3
    have d0 : w6.cell? ⟨gn, 0, none⟩ = some (.bool n.leaf) := (blk_cell hn.out.box 0).trans rfl
    have d1 : w6.cell? ⟨gn, 1, none⟩ = some (.slice A1 n.keys.length Ac1) := (blk_cell hn.out.box 1).trans rfl
    have d2 : w6.cell? ⟨gn, 2, none⟩ = some (.slice A2 n.vals.length Ac2) := (blk_cell hn.out.box 2).trans rfl
    have d3 : w6.cell? ⟨gn, 3, none⟩ = some (.slice A3 n.kids.length Ac3) := (blk_cell hn.out.box 3).trans rfl
    go_upto_region 9 with (first | ((with_reducible refine Calls.mono (HP.out _ _ hn.out.at_) ?_); rintro r w7 ⟨v0, rfl, q0, hbb⟩; obtain ⟨P1, Pc1, P2, Pc2, P3, Pc3, rfl, q1, q2, q3⟩ := q0; have hp := hid (Boxed.new (show At w7 (.agg #[.bool p.leaf, .slice P1 p.keys.length Pc1, .slice P2 p.vals.length Pc2, .slice P3 p.kids.length Pc3]) p from ⟨P1, Pc1, P2, Pc2, P3, Pc3, rfl, q1, q2, q3⟩)); clear q1 q2 q3; replace hn := hid (hn.out.below hbb); replace ho := hid (ho.out.below hbb); replace hB := hid (below_then hB.out hB.out.size hbb); skip; replace hn := hid (hn.out.below (below_alloc (Below.refl _ w7) (.cells #[.bool p.leaf, .slice P1 p.keys.length Pc1, .slice P2 p.vals.length Pc2, .slice P3 p.kids.length Pc3] 29))); replace ho := hid (ho.out.below (below_alloc (Below.refl _ w7) (.cells #[.bool p.leaf, .slice P1 p.keys.length Pc1, .slice P2 p.vals.length Pc2, .slice P3 p.kids.length Pc3] 29))); replace hB := hid (below_alloc hB.out (.cells #[.bool p.leaf, .slice P1 p.keys.length Pc1, .slice P2 p.vals.length Pc2, .slice P3 p.kids.length Pc3] 29)); clear hbb))
    change Code.wp _ _ _ _ (w7.alloc (.cells #[.bool p.leaf, .slice P1 p.keys.length Pc1, .slice P2 p.vals.length Pc2, .slice P3 p.kids.length Pc3] 29))
    generalize w7.alloc (.cells #[.bool p.leaf, .slice P1 p.keys.length Pc1, .slice P2 p.vals.length Pc2, .slice P3 p.kids.length Pc3] 29) = w8 at *
    have lhp := hid hp.out.lt
    generalize w7.heap.size = gp at *
    clear HP d0 d1 d2 d3
    have d0 : w8.cell? ⟨gn, 0, none⟩ = some (.bool n.leaf) := (blk_cell hn.out.box 0).trans rfl
    have d1 : w8.cell? ⟨gn, 1, none⟩ = some (.slice A1 n.keys.length Ac1) := (blk_cell hn.out.box 1).trans rfl
    have d2 : w8.cell? ⟨gn, 2, none⟩ = some (.slice A2 n.vals.length Ac2) := (blk_cell hn.out.box 2).trans rfl
    have d3 : w8.cell? ⟨gn, 3, none⟩ = some (.slice A3 n.kids.length Ac3) := (blk_cell hn.out.box 3).trans rfl
    go_upto_region 10 with (first | ((with_reducible refine Calls.mono (HW.out _ _ hn.out.at_) ?_); rintro r w9 ⟨v0, rfl, q0, hbb⟩; obtain ⟨W1, Wc1, W2, Wc2, W3, Wc3, rfl, q1, q2, q3⟩ := q0; have hw := hid (Boxed.new (show At w9 (.agg #[.bool u.leaf, .slice W1 u.keys.length Wc1, .slice W2 u.vals.length Wc2, .slice W3 u.kids.length Wc3]) u from ⟨W1, Wc1, W2, Wc2, W3, Wc3, rfl, q1, q2, q3⟩)); clear q1 q2 q3; replace hn := hid (hn.out.below hbb); replace ho := hid (ho.out.below hbb); replace hp := hid (hp.out.below hbb); replace hB := hid (below_then hB.out hB.out.size hbb); skip; replace hn := hid (hn.out.below (below_alloc (Below.refl _ w9) (.cells #[.bool u.leaf, .slice W1 u.keys.length Wc1, .slice W2 u.vals.length Wc2, .slice W3 u.kids.length Wc3] 29))); replace ho := hid (ho.out.below (below_alloc (Below.refl _ w9) (.cells #[.bool u.leaf, .slice W1 u.keys.length Wc1, .slice W2 u.vals.length Wc2, .slice W3 u.kids.length Wc3] 29))); replace hp := hid (hp.out.below (below_alloc (Below.refl _ w9) (.cells #[.bool u.leaf, .slice W1 u.keys.length Wc1, .slice W2 u.vals.length Wc2, .slice W3 u.kids.length Wc3] 29))); replace hB := hid (below_alloc hB.out (.cells #[.bool u.leaf, .slice W1 u.keys.length Wc1, .slice W2 u.vals.length Wc2, .slice W3 u.kids.length Wc3] 29)); clear hbb))
    change Code.wp _ _ _ _ (w9.alloc (.cells #[.bool u.leaf, .slice W1 u.keys.length Wc1, .slice W2 u.vals.length Wc2, .slice W3 u.kids.length Wc3] 29))
    generalize w9.alloc (.cells #[.bool u.leaf, .slice W1 u.keys.length Wc1, .slice W2 u.vals.length Wc2, .slice W3 u.kids.length Wc3] 29) = wa at *
    have lhw := hid hw.out.lt
    generalize w9.heap.size = gw at *
    clear HW d0 d1 d2 d3
    have d0 : wa.cell? ⟨gn, 0, none⟩ = some (.bool n.leaf) := (blk_cell hn.out.box 0).trans rfl
    have d1 : wa.cell? ⟨gn, 1, none⟩ = some (.slice A1 n.keys.length Ac1) := (blk_cell hn.out.box 1).trans rfl
    have d2 : wa.cell? ⟨gn, 2, none⟩ = some (.slice A2 n.vals.length Ac2) := (blk_cell hn.out.box 2).trans rfl
    have d3 : wa.cell? ⟨gn, 3, none⟩ = some (.slice A3 n.kids.length Ac3) := (blk_cell hn.out.box 3).trans rfl
    go_upto_region 11 with (first | ((with_reducible refine Calls.mono (HH.out _ _ hn.out.at_) ?_); rintro r wb ⟨v0, rfl, q0, hbb⟩; obtain ⟨H1, Hc1, H2, Hc2, H3, Hc3, rfl, q1, q2, q3⟩ := q0; have hh := hid (Boxed.new (show At wb (.agg #[.bool h.leaf, .slice H1 h.keys.length Hc1, .slice H2 h.vals.length Hc2, .slice H3 h.kids.length Hc3]) h from ⟨H1, Hc1, H2, Hc2, H3, Hc3, rfl, q1, q2, q3⟩)); clear q1 q2 q3; replace hn := hid (hn.out.below hbb); replace ho := hid (ho.out.below hbb); replace hp := hid (hp.out.below hbb); replace hw := hid (hw.out.below hbb); replace hB := hid (below_then hB.out hB.out.size hbb); skip; replace hn := hid (hn.out.below (below_alloc (Below.refl _ wb) (.cells #[.bool h.leaf, .slice H1 h.keys.length Hc1, .slice H2 h.vals.length Hc2, .slice H3 h.kids.length Hc3] 29))); replace ho := hid (ho.out.below (below_alloc (Below.refl _ wb) (.cells #[.bool h.leaf, .slice H1 h.keys.length Hc1, .slice H2 h.vals.length Hc2, .slice H3 h.kids.length Hc3] 29))); replace hp := hid (hp.out.below (below_alloc (Below.refl _ wb) (.cells #[.bool h.leaf, .slice H1 h.keys.length Hc1, .slice H2 h.vals.length Hc2, .slice H3 h.kids.length Hc3] 29))); replace hw := hid (hw.out.below (below_alloc (Below.refl _ wb) (.cells #[.bool h.leaf, .slice H1 h.keys.length Hc1, .slice H2 h.vals.length Hc2, .slice H3 h.kids.length Hc3] 29))); replace hB := hid (below_alloc hB.out (.cells #[.bool h.leaf, .slice H1 h.keys.length Hc1, .slice H2 h.vals.length Hc2, .slice H3 h.kids.length Hc3] 29)); clear hbb))
    change Code.wp _ _ _ _ (wb.alloc (.cells #[.bool h.leaf, .slice H1 h.keys.length Hc1, .slice H2 h.vals.length Hc2, .slice H3 h.kids.length Hc3] 29))
    generalize wb.alloc (.cells #[.bool h.leaf, .slice H1 h.keys.length Hc1, .slice H2 h.vals.length Hc2, .slice H3 h.kids.length Hc3] 29) = wd at *
    have lhh := hid hh.out.lt
    generalize wb.heap.size = gh at *
    clear HH d0 d1 d2 d3
    have d0 : wd.cell? ⟨gn, 0, none⟩ = some (.bool n.leaf) := (blk_cell hn.out.box 0).trans rfl
    have d1 : wd.cell? ⟨gn, 1, none⟩ = some (.slice A1 n.keys.length Ac1) := (blk_cell hn.out.box 1).trans rfl
    have d2 : wd.cell? ⟨gn, 2, none⟩ = some (.slice A2 n.vals.length Ac2) := (blk_cell hn.out.box 2).trans rfl
    have d3 : wd.cell? ⟨gn, 3, none⟩ = some (.slice A3 n.kids.length Ac3) := (blk_cell hn.out.box 3).trans rfl
    go_upto_region 12 with (first | ((with_reducible refine Calls.mono (HU.out _ _ hn.out.at_) ?_); rintro r we ⟨v0, rfl, q0, hbb⟩; obtain ⟨U1, Uc1, U2, Uc2, U3, Uc3, rfl, q1, q2, q3⟩ := q0; have hu := hid (Boxed.new (show At we (.agg #[.bool z.leaf, .slice U1 z.keys.length Uc1, .slice U2 z.vals.length Uc2, .slice U3 z.kids.length Uc3]) z from ⟨U1, Uc1, U2, Uc2, U3, Uc3, rfl, q1, q2, q3⟩)); clear q1 q2 q3; replace hn := hid (hn.out.below hbb); replace ho := hid (ho.out.below hbb); replace hp := hid (hp.out.below hbb); replace hw := hid (hw.out.below hbb); replace hh := hid (hh.out.below hbb); replace hB := hid (below_then hB.out hB.out.size hbb); skip; replace hn := hid (hn.out.below (below_alloc (Below.refl _ we) (.cells #[.bool z.leaf, .slice U1 z.keys.length Uc1, .slice U2 z.vals.length Uc2, .slice U3 z.kids.length Uc3] 29))); replace ho := hid (ho.out.below (below_alloc (Below.refl _ we) (.cells #[.bool z.leaf, .slice U1 z.keys.length Uc1, .slice U2 z.vals.length Uc2, .slice U3 z.kids.length Uc3] 29))); replace hp := hid (hp.out.below (below_alloc (Below.refl _ we) (.cells #[.bool z.leaf, .slice U1 z.keys.length Uc1, .slice U2 z.vals.length Uc2, .slice U3 z.kids.length Uc3] 29))); replace hw := hid (hw.out.below (below_alloc (Below.refl _ we) (.cells #[.bool z.leaf, .slice U1 z.keys.length Uc1, .slice U2 z.vals.length Uc2, .slice U3 z.kids.length Uc3] 29))); replace hh := hid (hh.out.below (below_alloc (Below.refl _ we) (.cells #[.bool z.leaf, .slice U1 z.keys.length Uc1, .slice U2 z.vals.length Uc2, .slice U3 z.kids.length Uc3] 29))); replace hB := hid (below_alloc hB.out (.cells #[.bool z.leaf, .slice U1 z.keys.length Uc1, .slice U2 z.vals.length Uc2, .slice U3 z.kids.length Uc3] 29)); clear hbb))
    change Code.wp _ _ _ _ (we.alloc (.cells #[.bool z.leaf, .slice U1 z.keys.length Uc1, .slice U2 z.vals.length Uc2, .slice U3 z.kids.length Uc3] 29))
    generalize we.alloc (.cells #[.bool z.leaf, .slice U1 z.keys.length Uc1, .slice U2 z.vals.length Uc2, .slice U3 z.kids.length Uc3] 29) = wf at *
    have lhu := hid hu.out.lt
    generalize we.heap.size = gu at *
    clear HU d0 d1 d2 d3
    have e0 : wf.cell? ⟨go, 0, none⟩ = some (.bool n.leaf) := (blk_cell ho.out.box 0).trans rfl
    have e1 : wf.cell? ⟨go, 1, none⟩ = some (.slice B1 n.keys.length Bc1) := (blk_cell ho.out.box 1).trans rfl
    have e2 : wf.cell? ⟨go, 2, none⟩ = some (.slice B2 n.vals.length Bc2) := (blk_cell ho.out.box 2).trans rfl
    have e3 : wf.cell? ⟨go, 3, none⟩ = some (.slice B3 n.kids.length Bc3) := (blk_cell ho.out.box 3).trans rfl
    go_upto_region 13 with (first | ((with_reducible refine Calls.mono (HR.out _ _ ho.out.at_) ?_); rintro r wg ⟨vr, rfl, qr, hbb⟩; replace qr := hid qr; replace hn := hid (hn.out.below hbb); replace ho := hid (ho.out.below hbb); replace hp := hid (hp.out.below hbb); replace hw := hid (hw.out.below hbb); replace hh := hid (hh.out.below hbb); replace hu := hid (hu.out.below hbb); replace hB := hid (below_then hB.out hB.out.size hbb); clear hbb) | ((with_reducible refine Calls.mono (hbp.out _ _ qr.out) ?_); rintro r wh ⟨rfl, hbb⟩; replace hn := hid (hn.out.below hbb); replace ho := hid (ho.out.below hbb); replace hp := hid (hp.out.below hbb); replace hw := hid (hw.out.below hbb); replace hh := hid (hh.out.below hbb); replace hu := hid (hu.out.below hbb); replace hB := hid (below_then hB.out hB.out.size hbb); clear hbb qr))
    clear hbp e0 e1 e2 e3
    cases b with
    | false =>
      go_wp2_with fail
      go_ret
      exact ⟨rfl, hB.out⟩
    | true =>
      have P := hb0.out rfl
      clear hb0
      have HfP := hid (Hf.out P)
      have HpP := hid (Hp.out P)
      have HwP := hid (Hw.out P)
      have HhP := hid (Hh.out P)
      have HuP := hid (Hu.out P)
      clear Hf Hp Hw Hh Hu P
      have e0 : wh.cell? ⟨go, 0, none⟩ = some (.bool n.leaf) := (blk_cell ho.out.box 0).trans rfl
      have e1 : wh.cell? ⟨go, 1, none⟩ = some (.slice B1 n.keys.length Bc1) := (blk_cell ho.out.box 1).trans rfl
      have e2 : wh.cell? ⟨go, 2, none⟩ = some (.slice B2 n.vals.length Bc2) := (blk_cell ho.out.box 2).trans rfl
      have e3 : wh.cell? ⟨go, 3, none⟩ = some (.slice B3 n.kids.length Bc3) := (blk_cell ho.out.box 3).trans rfl
      go_upto_region 15 with fail
      go_upto_region 16 with (first | ((with_reducible refine Calls.mono (HR.out _ _ ho.out.at_) ?_); rintro r wi ⟨vr, rfl, qr, hbb⟩; replace qr := hid qr; replace hn := hid (hn.out.below hbb); replace ho := hid (ho.out.below hbb); replace hp := hid (hp.out.below hbb); replace hw := hid (hw.out.below hbb); replace hh := hid (hh.out.below hbb); replace hu := hid (hu.out.below hbb); replace hB := hid (below_then hB.out hB.out.size hbb); clear hbb) | ((with_reducible refine Calls.mono (HfP.out _ _ qr.out) ?_); rintro r wj ⟨rfl, hbb⟩; replace hn := hid (hn.out.below hbb); replace ho := hid (ho.out.below hbb); replace hp := hid (hp.out.below hbb); replace hw := hid (hw.out.below hbb); replace hh := hid (hh.out.below hbb); replace hu := hid (hu.out.below hbb); replace hB := hid (below_then hB.out hB.out.size hbb); clear hbb qr))
      clear HfP e0 e1 e2 e3
      have f0 : wj.cell? ⟨gp, 0, none⟩ = some (.bool p.leaf) := (blk_cell hp.out.box 0).trans rfl
      have f1 : wj.cell? ⟨gp, 1, none⟩ = some (.slice P1 p.keys.length Pc1) := (blk_cell hp.out.box 1).trans rfl
      have f2 : wj.cell? ⟨gp, 2, none⟩ = some (.slice P2 p.vals.length Pc2) := (blk_cell hp.out.box 2).trans rfl
      have f3 : wj.cell? ⟨gp, 3, none⟩ = some (.slice P3 p.kids.length Pc3) := (blk_cell hp.out.box 3).trans rfl
      have e0 : wj.cell? ⟨go, 0, none⟩ = some (.bool n.leaf) := (blk_cell ho.out.box 0).trans rfl
      have e1 : wj.cell? ⟨go, 1, none⟩ = some (.slice B1 n.keys.length Bc1) := (blk_cell ho.out.box 1).trans rfl
      have e2 : wj.cell? ⟨go, 2, none⟩ = some (.slice B2 n.vals.length Bc2) := (blk_cell ho.out.box 2).trans rfl
      have e3 : wj.cell? ⟨go, 3, none⟩ = some (.slice B3 n.kids.length Bc3) := (blk_cell ho.out.box 3).trans rfl
      go_upto_region 16 with fail
      refine start_ (n := 8) (S := fun w' => Below wj.heap.size wj w') (ds := []) #[false, false, false, false, false, false, false, false] (by kernel_rfl) rfl rfl (below_drew (Below.refl _ _)) (fun hHeld => ?_)
      refine take_ (i := 0) (N := some 73) (v := ?_) (a' := ?_) #[true, false, false, false, false, false, false, false] rfl rfl (by kernel_rfl) (fun _ _ _ h => h) (Or.inl ⟨by rfl, ?_⟩) hHeld ?_ ?_
      rotate_left
      · rintro w' hb'
        have dd0 := pw_cell_below hb' f0
        have dd1 := pw_cell_below hb' f1
        have dd2 := pw_cell_below hb' f2
        have dd3 := pw_cell_below hb' f3
        go_simp
        with_reducible rfl
      rotate_left
      · simp only [Act.put, List.setIfInBounds_toArray, List.set_cons_zero, List.set_cons_succ, i64_w, i32_w]
        rfl
      refine take_ (i := 1) (N := some 74) (v := ?_) (a' := ?_) #[true, true, false, false, false, false, false, false] rfl rfl (by kernel_rfl) (fun _ _ _ h => h) (Or.inl ⟨by rfl, ?_⟩) hHeld ?_ ?_
      rotate_left
      · rintro w' hb'
        have dd0 := pw_cell_below hb' e0
        have dd1 := pw_cell_below hb' e1
        have dd2 := pw_cell_below hb' e2
        have dd3 := pw_cell_below hb' e3
        go_simp
        with_reducible rfl
      rotate_left
      · simp only [Act.put, List.setIfInBounds_toArray, List.set_cons_zero, List.set_cons_succ, i64_w, i32_w]
        rfl
      refine pure_ (i := 3) (N := some 76) (v := ?_) (a' := ?_) #[true, true, false, true, false, false, false, false] rfl rfl (by kernel_rfl) (fun _ _ _ h => h) (Or.inl ⟨by rfl, ?_⟩) ?_ ?_
      rotate_left
      · intro w'
        go_simp
        with_reducible rfl
      rotate_left
      · simp only [Act.put, List.setIfInBounds_toArray, List.set_cons_zero, List.set_cons_succ, i64_w, i32_w]
        rfl
      refine pure_ (i := 4) (N := some 77) (v := ?_) (a' := ?_) #[true, true, false, true, true, false, false, false] rfl rfl (by kernel_rfl) (fun _ _ _ h => h) (Or.inl ⟨by rfl, ?_⟩) ?_ ?_
      rotate_left
      · intro w'
        go_simp
        with_reducible rfl
      rotate_left
      · simp only [Act.put, List.setIfInBounds_toArray, List.set_cons_zero, List.set_cons_succ, i64_w, i32_w]
        rfl
      refine one_ (i := 2) (N := some 75) #[true, true, true, true, true, false, false, false] rfl rfl (by kernel_rfl) (by decide) (fun K hK => ?_)
      refine goes_ Try.func16 (by kernel_rfl) rfl #[(.agg #[.bool n.leaf, .slice B1 n.keys.length Bc1, .slice B2 n.vals.length Bc2, .slice B3 n.kids.length Bc3])] (by rfl) rfl rfl (by (try simp only [List.map_toArray, List.map_cons, List.map_nil]); first | done | rfl) ?_
      refine (HR.out _ _ (ho.out.below (below_drew (Below.refl _ _))).at_).mono ?_
      rintro r ax1 ⟨vr, rfl, qr, qz⟩
      replace qr := hid qr
      have sax1 := below_then (below_drew (Below.refl _ _)) (Nat.le_refl _) qz
      clear qz
      refine ⟨_, rfl, ?_⟩
      refine hK.out _ _ sax1 (fun hHeld => ?_)
      clear hK K
      refine norm_ (a' := ?_) ?_ ?_
      rotate_left
      · show Act.put _ (some 75) _ = _
        simp only [Act.put, List.setIfInBounds_toArray, List.set_cons_zero, List.set_cons_succ, i64_w, i32_w]
        rfl
      refine one_ (i := 5) (N := some 78) #[true, true, true, true, true, true, false, false] rfl rfl (by kernel_rfl) (by decide) (fun K hK => ?_)
      refine goes_ Try.func26 (by kernel_rfl) rfl #[vr, .int .u64 key, .string v] (by rfl) rfl rfl (by (try simp only [List.map_toArray, List.map_cons, List.map_nil]); first | done | rfl) ?_
      refine (HpP.out _ _ qr.out).mono ?_
      rintro r ax2 ⟨vp, rfl, qp, qz⟩
      replace qp := hid qp
      replace qr := hid (qr.out.below qz)
      have sax2 := below_then sax1 sax1.size qz
      clear qz
      refine ⟨_, rfl, ?_⟩
      refine hK.out _ _ sax2 (fun hHeld => ?_)
      clear hK K
      refine norm_ (a' := ?_) ?_ ?_
      rotate_left
      · show Act.put _ (some 78) _ = _
        simp only [Act.put, List.setIfInBounds_toArray, List.set_cons_zero, List.set_cons_succ, i64_w, i32_w]
        rfl
      refine one_ (i := 6) (N := some 79) #[true, true, true, true, true, true, true, false] rfl rfl (by kernel_rfl) (by decide) (fun K hK => ?_)
      refine goes_ Try.func14 (by kernel_rfl) rfl #[(.agg #[.bool p.leaf, .slice P1 p.keys.length Pc1, .slice P2 p.vals.length Pc2, .slice P3 p.kids.length Pc3]), vp] (by rfl) rfl rfl (by (try simp only [List.map_toArray, List.map_cons, List.map_nil]); first | done | rfl) ?_
      refine (HSp.out _ _ _ (hp.out.below sax2).at_ qp.out).mono ?_
      rintro r ax3 ⟨rfl, qz⟩
      replace qr := hid (qr.out.below qz)
      replace qp := hid (qp.out.below qz)
      have sax3 := below_then sax2 sax2.size qz
      clear qz
      refine ⟨_, rfl, ?_⟩
      refine hK.out _ _ sax3 (fun hHeld => ?_)
      clear hK K
      refine norm_ (a' := ?_) ?_ ?_
      rotate_left
      · show Act.put _ (some 79) _ = _
        simp only [Act.put, List.setIfInBounds_toArray, List.set_cons_zero, List.set_cons_succ, i64_w, i32_w]
        rfl
      refine pure_ (i := 7) (N := some 22) (v := ?_) (a' := ?_) #[true, true, true, true, true, true, true, true] rfl rfl (by kernel_rfl) (fun _ _ _ h => h) (Or.inl ⟨by rfl, ?_⟩) ?_ ?_
      rotate_left
      · intro w'
        go_simp
        with_reducible rfl
      rotate_left
      · simp only [Act.put, List.setIfInBounds_toArray, List.set_cons_zero, List.set_cons_succ, i64_w, i32_w]
        rfl
      refine done_ (by kernel_rfl) ?_
      replace hn := hid (hn.out.below sax3)
      replace ho := hid (ho.out.below sax3)
      replace hp := hid (hp.out.below sax3)
      replace hw := hid (hw.out.below sax3)
      replace hh := hid (hh.out.below sax3)
      replace hu := hid (hu.out.below sax3)
      replace hB := hid (below_then hB.out hB.out.size sax3)
      clear hHeld sax1 sax2 sax3 qr qp
      clear f0 f1 f2 f3
      clear e0 e1 e2 e3
      clear HSp HpP
      have g0 : ax3.cell? ⟨gw, 0, none⟩ = some (.bool u.leaf) := (blk_cell hw.out.box 0).trans rfl
      have g1 : ax3.cell? ⟨gw, 1, none⟩ = some (.slice W1 u.keys.length Wc1) := (blk_cell hw.out.box 1).trans rfl
      have g2 : ax3.cell? ⟨gw, 2, none⟩ = some (.slice W2 u.vals.length Wc2) := (blk_cell hw.out.box 2).trans rfl
      have g3 : ax3.cell? ⟨gw, 3, none⟩ = some (.slice W3 u.kids.length Wc3) := (blk_cell hw.out.box 3).trans rfl
      have e0 : ax3.cell? ⟨go, 0, none⟩ = some (.bool n.leaf) := (blk_cell ho.out.box 0).trans rfl
      have e1 : ax3.cell? ⟨go, 1, none⟩ = some (.slice B1 n.keys.length Bc1) := (blk_cell ho.out.box 1).trans rfl
      have e2 : ax3.cell? ⟨go, 2, none⟩ = some (.slice B2 n.vals.length Bc2) := (blk_cell ho.out.box 2).trans rfl
      have e3 : ax3.cell? ⟨go, 3, none⟩ = some (.slice B3 n.kids.length Bc3) := (blk_cell ho.out.box 3).trans rfl
      go_upto_region 17 with fail
      refine start_ (n := 7) (S := fun w' => Below ax3.heap.size ax3 w') (ds := []) #[false, false, false, false, false, false, false] (by kernel_rfl) rfl rfl (below_drew (Below.refl _ _)) (fun hHeld => ?_)
      refine take_ (i := 0) (N := some 80) (v := ?_) (a' := ?_) #[true, false, false, false, false, false, false] rfl rfl (by kernel_rfl) (fun _ _ _ h => h) (Or.inl ⟨by rfl, ?_⟩) hHeld ?_ ?_
      rotate_left
      · rintro w' hb'
        have dd0 := pw_cell_below hb' g0
        have dd1 := pw_cell_below hb' g1
        have dd2 := pw_cell_below hb' g2
        have dd3 := pw_cell_below hb' g3
        go_simp
        with_reducible rfl
      rotate_left
      · simp only [Act.put, List.setIfInBounds_toArray, List.set_cons_zero, List.set_cons_succ, i64_w, i32_w]
        rfl
      refine take_ (i := 1) (N := some 81) (v := ?_) (a' := ?_) #[true, true, false, false, false, false, false] rfl rfl (by kernel_rfl) (fun _ _ _ h => h) (Or.inl ⟨by rfl, ?_⟩) hHeld ?_ ?_
      rotate_left
      · rintro w' hb'
        have dd0 := pw_cell_below hb' e0
        have dd1 := pw_cell_below hb' e1
        have dd2 := pw_cell_below hb' e2
        have dd3 := pw_cell_below hb' e3
        go_simp
        with_reducible rfl
      rotate_left
      · simp only [Act.put, List.setIfInBounds_toArray, List.set_cons_zero, List.set_cons_succ, i64_w, i32_w]
        rfl
      refine pure_ (i := 3) (N := some 83) (v := ?_) (a' := ?_) #[true, true, false, true, false, false, false] rfl rfl (by kernel_rfl) (fun _ _ _ h => h) (Or.inl ⟨by rfl, ?_⟩) ?_ ?_
      rotate_left
      · intro w'
        go_simp
        with_reducible rfl
      rotate_left
      · simp only [Act.put, List.setIfInBounds_toArray, List.set_cons_zero, List.set_cons_succ, i64_w, i32_w]
        rfl
      refine one_ (i := 2) (N := some 82) #[true, true, true, true, false, false, false] rfl rfl (by kernel_rfl) (by decide) (fun K hK => ?_)
      refine goes_ Try.func16 (by kernel_rfl) rfl #[(.agg #[.bool n.leaf, .slice B1 n.keys.length Bc1, .slice B2 n.vals.length Bc2, .slice B3 n.kids.length Bc3])] (by rfl) rfl rfl (by (try simp only [List.map_toArray, List.map_cons, List.map_nil]); first | done | rfl) ?_
      refine (HR.out _ _ (ho.out.below (below_drew (Below.refl _ _))).at_).mono ?_
      rintro r bx1 ⟨vr, rfl, qr, qz⟩
      replace qr := hid qr
      have sbx1 := below_then (below_drew (Below.refl _ _)) (Nat.le_refl _) qz
      clear qz
      refine ⟨_, rfl, ?_⟩
      refine hK.out _ _ sbx1 (fun hHeld => ?_)
      clear hK K
      refine norm_ (a' := ?_) ?_ ?_
      rotate_left
      · show Act.put _ (some 82) _ = _
        simp only [Act.put, List.setIfInBounds_toArray, List.set_cons_zero, List.set_cons_succ, i64_w, i32_w]
        rfl
      refine one_ (i := 4) (N := some 84) #[true, true, true, true, true, false, false] rfl rfl (by kernel_rfl) (by decide) (fun K hK => ?_)
      refine goes_ Try.func27 (by kernel_rfl) rfl #[vr, .int .i64 i] (by rfl) rfl rfl (by (try simp only [List.map_toArray, List.map_cons, List.map_nil]); first | done | rfl) ?_
      refine (HwP.out _ _ qr.out).mono ?_
      rintro r bx2 ⟨vp, rfl, qp, qz⟩
      replace qp := hid qp
      replace qr := hid (qr.out.below qz)
      have sbx2 := below_then sbx1 sbx1.size qz
      clear qz
      refine ⟨_, rfl, ?_⟩
      refine hK.out _ _ sbx2 (fun hHeld => ?_)
      clear hK K
      refine norm_ (a' := ?_) ?_ ?_
      rotate_left
      · show Act.put _ (some 84) _ = _
        simp only [Act.put, List.setIfInBounds_toArray, List.set_cons_zero, List.set_cons_succ, i64_w, i32_w]
        rfl
      refine one_ (i := 5) (N := some 85) #[true, true, true, true, true, true, false] rfl rfl (by kernel_rfl) (by decide) (fun K hK => ?_)
      refine goes_ Try.func14 (by kernel_rfl) rfl #[(.agg #[.bool u.leaf, .slice W1 u.keys.length Wc1, .slice W2 u.vals.length Wc2, .slice W3 u.kids.length Wc3]), vp] (by rfl) rfl rfl (by (try simp only [List.map_toArray, List.map_cons, List.map_nil]); first | done | rfl) ?_
      refine (HSw.out _ _ _ (hw.out.below sbx2).at_ qp.out).mono ?_
      rintro r bx3 ⟨rfl, qz⟩
      replace qr := hid (qr.out.below qz)
      replace qp := hid (qp.out.below qz)
      have sbx3 := below_then sbx2 sbx2.size qz
      clear qz
      refine ⟨_, rfl, ?_⟩
      refine hK.out _ _ sbx3 (fun hHeld => ?_)
      clear hK K
      refine norm_ (a' := ?_) ?_ ?_
      rotate_left
      · show Act.put _ (some 85) _ = _
        simp only [Act.put, List.setIfInBounds_toArray, List.set_cons_zero, List.set_cons_succ, i64_w, i32_w]
        rfl
      refine pure_ (i := 6) (N := some 23) (v := ?_) (a' := ?_) #[true, true, true, true, true, true, true] rfl rfl (by kernel_rfl) (fun _ _ _ h => h) (Or.inl ⟨by rfl, ?_⟩) ?_ ?_
      rotate_left
      · intro w'
        go_simp
        with_reducible rfl
      rotate_left
      · simp only [Act.put, List.setIfInBounds_toArray, List.set_cons_zero, List.set_cons_succ, i64_w, i32_w]
        rfl
      refine done_ (by kernel_rfl) ?_
      replace hn := hid (hn.out.below sbx3)
      replace ho := hid (ho.out.below sbx3)
      replace hp := hid (hp.out.below sbx3)
      replace hw := hid (hw.out.below sbx3)
      replace hh := hid (hh.out.below sbx3)
      replace hu := hid (hu.out.below sbx3)
      replace hB := hid (below_then hB.out hB.out.size sbx3)
      clear hHeld sbx1 sbx2 sbx3 qr qp
      clear g0 g1 g2 g3
      clear e0 e1 e2 e3
      clear HSw HwP
      have h0 : bx3.cell? ⟨gh, 0, none⟩ = some (.bool h.leaf) := (blk_cell hh.out.box 0).trans rfl
      have h1 : bx3.cell? ⟨gh, 1, none⟩ = some (.slice H1 h.keys.length Hc1) := (blk_cell hh.out.box 1).trans rfl
      have h2 : bx3.cell? ⟨gh, 2, none⟩ = some (.slice H2 h.vals.length Hc2) := (blk_cell hh.out.box 2).trans rfl
      have h3 : bx3.cell? ⟨gh, 3, none⟩ = some (.slice H3 h.kids.length Hc3) := (blk_cell hh.out.box 3).trans rfl
      have e0 : bx3.cell? ⟨go, 0, none⟩ = some (.bool n.leaf) := (blk_cell ho.out.box 0).trans rfl
      have e1 : bx3.cell? ⟨go, 1, none⟩ = some (.slice B1 n.keys.length Bc1) := (blk_cell ho.out.box 1).trans rfl
      have e2 : bx3.cell? ⟨go, 2, none⟩ = some (.slice B2 n.vals.length Bc2) := (blk_cell ho.out.box 2).trans rfl
      have e3 : bx3.cell? ⟨go, 3, none⟩ = some (.slice B3 n.kids.length Bc3) := (blk_cell ho.out.box 3).trans rfl
      go_upto_region 18 with fail
      refine start_ (n := 9) (S := fun w' => Below bx3.heap.size bx3 w') (ds := []) #[false, false, false, false, false, false, false, false, false] (by kernel_rfl) rfl rfl (below_drew (Below.refl _ _)) (fun hHeld => ?_)
      refine take_ (i := 0) (N := some 86) (v := ?_) (a' := ?_) #[true, false, false, false, false, false, false, false, false] rfl rfl (by kernel_rfl) (fun _ _ _ h => h) (Or.inl ⟨by rfl, ?_⟩) hHeld ?_ ?_
      rotate_left
      · rintro w' hb'
        have dd0 := pw_cell_below hb' h0
        have dd1 := pw_cell_below hb' h1
        have dd2 := pw_cell_below hb' h2
        have dd3 := pw_cell_below hb' h3
        go_simp
        with_reducible rfl
      rotate_left
      · simp only [Act.put, List.setIfInBounds_toArray, List.set_cons_zero, List.set_cons_succ, i64_w, i32_w]
        rfl
      refine take_ (i := 1) (N := some 87) (v := ?_) (a' := ?_) #[true, true, false, false, false, false, false, false, false] rfl rfl (by kernel_rfl) (fun _ _ _ h => h) (Or.inl ⟨by rfl, ?_⟩) hHeld ?_ ?_
      rotate_left
      · rintro w' hb'
        have dd0 := pw_cell_below hb' e0
        have dd1 := pw_cell_below hb' e1
        have dd2 := pw_cell_below hb' e2
        have dd3 := pw_cell_below hb' e3
        go_simp
        with_reducible rfl
      rotate_left
      · simp only [Act.put, List.setIfInBounds_toArray, List.set_cons_zero, List.set_cons_succ, i64_w, i32_w]
        rfl
      refine pure_ (i := 3) (N := some 89) (v := ?_) (a' := ?_) #[true, true, false, true, false, false, false, false, false] rfl rfl (by kernel_rfl) (fun _ _ _ h => h) (Or.inl ⟨by rfl, ?_⟩) ?_ ?_
      rotate_left
      · intro w'
        go_simp
        with_reducible rfl
      rotate_left
      · simp only [Act.put, List.setIfInBounds_toArray, List.set_cons_zero, List.set_cons_succ, i64_w, i32_w]
        rfl
      refine pure_ (i := 4) (N := some 90) (v := ?_) (a' := ?_) #[true, true, false, true, true, false, false, false, false] rfl rfl (by kernel_rfl) (fun _ _ _ h => h) (Or.inl ⟨by rfl, ?_⟩) ?_ ?_
      rotate_left
      · intro w'
        go_simp
        with_reducible rfl
      rotate_left
      · simp only [Act.put, List.setIfInBounds_toArray, List.set_cons_zero, List.set_cons_succ, i64_w, i32_w]
        rfl
      refine pure_ (i := 5) (N := some 91) (v := ?_) (a' := ?_) #[true, true, false, true, true, true, false, false, false] rfl rfl (by kernel_rfl) (fun _ _ _ h => h) (Or.inl ⟨by rfl, ?_⟩) ?_ ?_
      rotate_left
      · intro w'
        go_simp
        with_reducible rfl
      rotate_left
      · simp only [Act.put, List.setIfInBounds_toArray, List.set_cons_zero, List.set_cons_succ, i64_w, i32_w]
        rfl
      refine one_ (i := 2) (N := some 88) #[true, true, true, true, true, true, false, false, false] rfl rfl (by kernel_rfl) (by decide) (fun K hK => ?_)
      refine goes_ Try.func16 (by kernel_rfl) rfl #[(.agg #[.bool n.leaf, .slice B1 n.keys.length Bc1, .slice B2 n.vals.length Bc2, .slice B3 n.kids.length Bc3])] (by rfl) rfl rfl (by (try simp only [List.map_toArray, List.map_cons, List.map_nil]); first | done | rfl) ?_
      refine (HR.out _ _ (ho.out.below (below_drew (Below.refl _ _))).at_).mono ?_
      rintro r cx1 ⟨vr, rfl, qr, qz⟩
      replace qr := hid qr
      have scx1 := below_then (below_drew (Below.refl _ _)) (Nat.le_refl _) qz
      clear qz
      refine ⟨_, rfl, ?_⟩
      refine hK.out _ _ scx1 (fun hHeld => ?_)
      clear hK K
      refine norm_ (a' := ?_) ?_ ?_
      rotate_left
      · show Act.put _ (some 88) _ = _
        simp only [Act.put, List.setIfInBounds_toArray, List.set_cons_zero, List.set_cons_succ, i64_w, i32_w]
        rfl
      refine one_ (i := 6) (N := some 92) #[true, true, true, true, true, true, true, false, false] rfl rfl (by kernel_rfl) (by decide) (fun K hK => ?_)
      refine goes_ Try.func28 (by kernel_rfl) rfl #[vr, .int .i64 i, .int .u64 key, .int .i64 kid] (by rfl) rfl rfl (by (try simp only [List.map_toArray, List.map_cons, List.map_nil]); first | done | rfl) ?_
      refine (HhP.out _ _ qr.out).mono ?_
      rintro r cx2 ⟨vp, rfl, qp, qz⟩
      replace qp := hid qp
      replace qr := hid (qr.out.below qz)
      have scx2 := below_then scx1 scx1.size qz
      clear qz
      refine ⟨_, rfl, ?_⟩
      refine hK.out _ _ scx2 (fun hHeld => ?_)
      clear hK K
      refine norm_ (a' := ?_) ?_ ?_
      rotate_left
      · show Act.put _ (some 92) _ = _
        simp only [Act.put, List.setIfInBounds_toArray, List.set_cons_zero, List.set_cons_succ, i64_w, i32_w]
        rfl
      refine one_ (i := 7) (N := some 93) #[true, true, true, true, true, true, true, true, false] rfl rfl (by kernel_rfl) (by decide) (fun K hK => ?_)
      refine goes_ Try.func14 (by kernel_rfl) rfl #[(.agg #[.bool h.leaf, .slice H1 h.keys.length Hc1, .slice H2 h.vals.length Hc2, .slice H3 h.kids.length Hc3]), vp] (by rfl) rfl rfl (by (try simp only [List.map_toArray, List.map_cons, List.map_nil]); first | done | rfl) ?_
      refine (HSh.out _ _ _ (hh.out.below scx2).at_ qp.out).mono ?_
      rintro r cx3 ⟨rfl, qz⟩
      replace qr := hid (qr.out.below qz)
      replace qp := hid (qp.out.below qz)
      have scx3 := below_then scx2 scx2.size qz
      clear qz
      refine ⟨_, rfl, ?_⟩
      refine hK.out _ _ scx3 (fun hHeld => ?_)
      clear hK K
      refine norm_ (a' := ?_) ?_ ?_
      rotate_left
      · show Act.put _ (some 93) _ = _
        simp only [Act.put, List.setIfInBounds_toArray, List.set_cons_zero, List.set_cons_succ, i64_w, i32_w]
        rfl
      refine pure_ (i := 8) (N := some 24) (v := ?_) (a' := ?_) #[true, true, true, true, true, true, true, true, true] rfl rfl (by kernel_rfl) (fun _ _ _ h => h) (Or.inl ⟨by rfl, ?_⟩) ?_ ?_
      rotate_left
      · intro w'
        go_simp
        with_reducible rfl
      rotate_left
      · simp only [Act.put, List.setIfInBounds_toArray, List.set_cons_zero, List.set_cons_succ, i64_w, i32_w]
        rfl
      refine done_ (by kernel_rfl) ?_
      replace hn := hid (hn.out.below scx3)
      replace ho := hid (ho.out.below scx3)
      replace hp := hid (hp.out.below scx3)
      replace hw := hid (hw.out.below scx3)
      replace hh := hid (hh.out.below scx3)
      replace hu := hid (hu.out.below scx3)
      replace hB := hid (below_then hB.out hB.out.size scx3)
      clear hHeld scx1 scx2 scx3 qr qp
      clear h0 h1 h2 h3
      clear e0 e1 e2 e3
      clear HSh HhP
      have i0 : cx3.cell? ⟨gu, 0, none⟩ = some (.bool z.leaf) := (blk_cell hu.out.box 0).trans rfl
      have i1 : cx3.cell? ⟨gu, 1, none⟩ = some (.slice U1 z.keys.length Uc1) := (blk_cell hu.out.box 1).trans rfl
      have i2 : cx3.cell? ⟨gu, 2, none⟩ = some (.slice U2 z.vals.length Uc2) := (blk_cell hu.out.box 2).trans rfl
      have i3 : cx3.cell? ⟨gu, 3, none⟩ = some (.slice U3 z.kids.length Uc3) := (blk_cell hu.out.box 3).trans rfl
      have e0 : cx3.cell? ⟨go, 0, none⟩ = some (.bool n.leaf) := (blk_cell ho.out.box 0).trans rfl
      have e1 : cx3.cell? ⟨go, 1, none⟩ = some (.slice B1 n.keys.length Bc1) := (blk_cell ho.out.box 1).trans rfl
      have e2 : cx3.cell? ⟨go, 2, none⟩ = some (.slice B2 n.vals.length Bc2) := (blk_cell ho.out.box 2).trans rfl
      have e3 : cx3.cell? ⟨go, 3, none⟩ = some (.slice B3 n.kids.length Bc3) := (blk_cell ho.out.box 3).trans rfl
      go_upto_region 19 with fail
      refine start_ (n := 7) (S := fun w' => Below cx3.heap.size cx3 w') (ds := []) #[false, false, false, false, false, false, false] (by kernel_rfl) rfl rfl (below_drew (Below.refl _ _)) (fun hHeld => ?_)
      refine take_ (i := 0) (N := some 94) (v := ?_) (a' := ?_) #[true, false, false, false, false, false, false] rfl rfl (by kernel_rfl) (fun _ _ _ h => h) (Or.inl ⟨by rfl, ?_⟩) hHeld ?_ ?_
      rotate_left
      · rintro w' hb'
        have dd0 := pw_cell_below hb' i0
        have dd1 := pw_cell_below hb' i1
        have dd2 := pw_cell_below hb' i2
        have dd3 := pw_cell_below hb' i3
        go_simp
        with_reducible rfl
      rotate_left
      · simp only [Act.put, List.setIfInBounds_toArray, List.set_cons_zero, List.set_cons_succ, i64_w, i32_w]
        rfl
      refine take_ (i := 1) (N := some 95) (v := ?_) (a' := ?_) #[true, true, false, false, false, false, false] rfl rfl (by kernel_rfl) (fun _ _ _ h => h) (Or.inl ⟨by rfl, ?_⟩) hHeld ?_ ?_
      rotate_left
      · rintro w' hb'
        have dd0 := pw_cell_below hb' e0
        have dd1 := pw_cell_below hb' e1
        have dd2 := pw_cell_below hb' e2
        have dd3 := pw_cell_below hb' e3
        go_simp
        with_reducible rfl
      rotate_left
      · simp only [Act.put, List.setIfInBounds_toArray, List.set_cons_zero, List.set_cons_succ, i64_w, i32_w]
        rfl
      refine pure_ (i := 3) (N := some 97) (v := ?_) (a' := ?_) #[true, true, false, true, false, false, false] rfl rfl (by kernel_rfl) (fun _ _ _ h => h) (Or.inl ⟨by rfl, ?_⟩) ?_ ?_
      rotate_left
      · intro w'
        go_simp
        with_reducible rfl
      rotate_left
      · simp only [Act.put, List.setIfInBounds_toArray, List.set_cons_zero, List.set_cons_succ, i64_w, i32_w]
        rfl
      refine one_ (i := 2) (N := some 96) #[true, true, true, true, false, false, false] rfl rfl (by kernel_rfl) (by decide) (fun K hK => ?_)
      refine goes_ Try.func16 (by kernel_rfl) rfl #[(.agg #[.bool n.leaf, .slice B1 n.keys.length Bc1, .slice B2 n.vals.length Bc2, .slice B3 n.kids.length Bc3])] (by rfl) rfl rfl (by (try simp only [List.map_toArray, List.map_cons, List.map_nil]); first | done | rfl) ?_
      refine (HR.out _ _ (ho.out.below (below_drew (Below.refl _ _))).at_).mono ?_
      rintro r dx1 ⟨vr, rfl, qr, qz⟩
      replace qr := hid qr
      have sdx1 := below_then (below_drew (Below.refl _ _)) (Nat.le_refl _) qz
      clear qz
      refine ⟨_, rfl, ?_⟩
      refine hK.out _ _ sdx1 (fun hHeld => ?_)
      clear hK K
      refine norm_ (a' := ?_) ?_ ?_
      rotate_left
      · show Act.put _ (some 96) _ = _
        simp only [Act.put, List.setIfInBounds_toArray, List.set_cons_zero, List.set_cons_succ, i64_w, i32_w]
        rfl
      refine one_ (i := 4) (N := some 98) #[true, true, true, true, true, false, false] rfl rfl (by kernel_rfl) (by decide) (fun K hK => ?_)
      refine goes_ Try.func29 (by kernel_rfl) rfl #[vr, .int .i64 i] (by rfl) rfl rfl (by (try simp only [List.map_toArray, List.map_cons, List.map_nil]); first | done | rfl) ?_
      refine (HuP.out _ _ qr.out).mono ?_
      rintro r dx2 ⟨vp, rfl, qp, qz⟩
      replace qp := hid qp
      replace qr := hid (qr.out.below qz)
      have sdx2 := below_then sdx1 sdx1.size qz
      clear qz
      refine ⟨_, rfl, ?_⟩
      refine hK.out _ _ sdx2 (fun hHeld => ?_)
      clear hK K
      refine norm_ (a' := ?_) ?_ ?_
      rotate_left
      · show Act.put _ (some 98) _ = _
        simp only [Act.put, List.setIfInBounds_toArray, List.set_cons_zero, List.set_cons_succ, i64_w, i32_w]
        rfl
      refine one_ (i := 5) (N := some 99) #[true, true, true, true, true, true, false] rfl rfl (by kernel_rfl) (by decide) (fun K hK => ?_)
      refine goes_ Try.func14 (by kernel_rfl) rfl #[(.agg #[.bool z.leaf, .slice U1 z.keys.length Uc1, .slice U2 z.vals.length Uc2, .slice U3 z.kids.length Uc3]), vp] (by rfl) rfl rfl (by (try simp only [List.map_toArray, List.map_cons, List.map_nil]); first | done | rfl) ?_
      refine (HSu.out _ _ _ (hu.out.below sdx2).at_ qp.out).mono ?_
      rintro r dx3 ⟨rfl, qz⟩
      replace qr := hid (qr.out.below qz)
      replace qp := hid (qp.out.below qz)
      have sdx3 := below_then sdx2 sdx2.size qz
      clear qz
      refine ⟨_, rfl, ?_⟩
      refine hK.out _ _ sdx3 (fun hHeld => ?_)
      clear hK K
      refine norm_ (a' := ?_) ?_ ?_
      rotate_left
      · show Act.put _ (some 99) _ = _
        simp only [Act.put, List.setIfInBounds_toArray, List.set_cons_zero, List.set_cons_succ, i64_w, i32_w]
        rfl
      refine pure_ (i := 6) (N := some 25) (v := ?_) (a' := ?_) #[true, true, true, true, true, true, true] rfl rfl (by kernel_rfl) (fun _ _ _ h => h) (Or.inl ⟨by rfl, ?_⟩) ?_ ?_
      rotate_left
      · intro w'
        go_simp
        with_reducible rfl
      rotate_left
      · simp only [Act.put, List.setIfInBounds_toArray, List.set_cons_zero, List.set_cons_succ, i64_w, i32_w]
        rfl
      refine done_ (by kernel_rfl) ?_
      replace hn := hid (hn.out.below sdx3)
      replace ho := hid (ho.out.below sdx3)
      replace hp := hid (hp.out.below sdx3)
      replace hw := hid (hw.out.below sdx3)
      replace hh := hid (hh.out.below sdx3)
      replace hu := hid (hu.out.below sdx3)
      replace hB := hid (below_then hB.out hB.out.size sdx3)
      clear hHeld sdx1 sdx2 sdx3 qr qp
      clear i0 i1 i2 i3
      clear e0 e1 e2 e3
      clear HSu HuP
      have d0 : dx3.cell? ⟨gn, 0, none⟩ = some (.bool n.leaf) := (blk_cell hn.out.box 0).trans rfl
      have d1 : dx3.cell? ⟨gn, 1, none⟩ = some (.slice A1 n.keys.length Ac1) := (blk_cell hn.out.box 1).trans rfl
      have d2 : dx3.cell? ⟨gn, 2, none⟩ = some (.slice A2 n.vals.length Ac2) := (blk_cell hn.out.box 2).trans rfl
      have d3 : dx3.cell? ⟨gn, 3, none⟩ = some (.slice A3 n.kids.length Ac3) := (blk_cell hn.out.box 3).trans rfl
      have e0 : dx3.cell? ⟨go, 0, none⟩ = some (.bool n.leaf) := (blk_cell ho.out.box 0).trans rfl
      have e1 : dx3.cell? ⟨go, 1, none⟩ = some (.slice B1 n.keys.length Bc1) := (blk_cell ho.out.box 1).trans rfl
      have e2 : dx3.cell? ⟨go, 2, none⟩ = some (.slice B2 n.vals.length Bc2) := (blk_cell ho.out.box 2).trans rfl
      have e3 : dx3.cell? ⟨go, 3, none⟩ = some (.slice B3 n.kids.length Bc3) := (blk_cell ho.out.box 3).trans rfl
      go_upto_region 20 with fail
      refine start_ (n := 5) (S := fun w' => Below dx3.heap.size dx3 w') (ds := []) #[false, false, false, false, false] (by kernel_rfl) rfl rfl (below_drew (Below.refl _ _)) (fun hHeld => ?_)
      refine take_ (i := 0) (N := some 100) (v := ?_) (a' := ?_) #[true, false, false, false, false] rfl rfl (by kernel_rfl) (fun _ _ _ h => h) (Or.inl ⟨by rfl, ?_⟩) hHeld ?_ ?_
      rotate_left
      · rintro w' hb'
        have dd0 := pw_cell_below hb' d0
        have dd1 := pw_cell_below hb' d1
        have dd2 := pw_cell_below hb' d2
        have dd3 := pw_cell_below hb' d3
        go_simp
        with_reducible rfl
      rotate_left
      · simp only [Act.put, List.setIfInBounds_toArray, List.set_cons_zero, List.set_cons_succ, i64_w, i32_w]
        rfl
      refine take_ (i := 1) (N := some 101) (v := ?_) (a' := ?_) #[true, true, false, false, false] rfl rfl (by kernel_rfl) (fun _ _ _ h => h) (Or.inl ⟨by rfl, ?_⟩) hHeld ?_ ?_
      rotate_left
      · rintro w' hb'
        have dd0 := pw_cell_below hb' e0
        have dd1 := pw_cell_below hb' e1
        have dd2 := pw_cell_below hb' e2
        have dd3 := pw_cell_below hb' e3
        go_simp
        with_reducible rfl
      rotate_left
      · simp only [Act.put, List.setIfInBounds_toArray, List.set_cons_zero, List.set_cons_succ, i64_w, i32_w]
        rfl
      refine one_ (i := 2) (N := some 102) #[true, true, true, false, false] rfl rfl (by kernel_rfl) (by decide) (fun K hK => ?_)
      refine goes_ Try.func16 (by kernel_rfl) rfl #[(.agg #[.bool n.leaf, .slice B1 n.keys.length Bc1, .slice B2 n.vals.length Bc2, .slice B3 n.kids.length Bc3])] (by rfl) rfl rfl (by (try simp only [List.map_toArray, List.map_cons, List.map_nil]); first | done | rfl) ?_
      refine (HR.out _ _ (ho.out.below (below_drew (Below.refl _ _))).at_).mono ?_
      rintro r ex1 ⟨vr, rfl, qr, qz⟩
      replace qr := hid qr
      have sex1 := below_then (below_drew (Below.refl _ _)) (Nat.le_refl _) qz
      clear qz
      refine ⟨_, rfl, ?_⟩
      refine hK.out _ _ sex1 (fun hHeld => ?_)
      clear hK K
      refine norm_ (a' := ?_) ?_ ?_
      rotate_left
      · show Act.put _ (some 102) _ = _
        simp only [Act.put, List.setIfInBounds_toArray, List.set_cons_zero, List.set_cons_succ, i64_w, i32_w]
        rfl
      refine one_ (i := 3) (N := some 103) #[true, true, true, true, false] rfl rfl (by kernel_rfl) (by decide) (fun K hK => ?_)
      refine goes_ Try.func14 (by kernel_rfl) rfl #[(.agg #[.bool n.leaf, .slice A1 n.keys.length Ac1, .slice A2 n.vals.length Ac2, .slice A3 n.kids.length Ac3]), vr] (by rfl) rfl rfl (by (try simp only [List.map_toArray, List.map_cons, List.map_nil]); first | done | rfl) ?_
      refine (HSn.out _ _ _ (hn.out.below sex1).at_ qr.out).mono ?_
      rintro r ex2 ⟨rfl, qz⟩
      replace qr := hid (qr.out.below qz)
      have sex2 := below_then sex1 sex1.size qz
      clear qz
      refine ⟨_, rfl, ?_⟩
      refine hK.out _ _ sex2 (fun hHeld => ?_)
      clear hK K
      refine norm_ (a' := ?_) ?_ ?_
      rotate_left
      · show Act.put _ (some 103) _ = _
        simp only [Act.put, List.setIfInBounds_toArray, List.set_cons_zero, List.set_cons_succ, i64_w, i32_w]
        rfl
      refine pure_ (i := 4) (N := some 26) (v := ?_) (a' := ?_) #[true, true, true, true, true] rfl rfl (by kernel_rfl) (fun _ _ _ h => h) (Or.inl ⟨by rfl, ?_⟩) ?_ ?_
      rotate_left
      · intro w'
        go_simp
        with_reducible rfl
      rotate_left
      · simp only [Act.put, List.setIfInBounds_toArray, List.set_cons_zero, List.set_cons_succ, i64_w, i32_w]
        rfl
      refine done_ (by kernel_rfl) ?_
      replace hn := hid (hn.out.below sex2)
      replace ho := hid (ho.out.below sex2)
      replace hp := hid (hp.out.below sex2)
      replace hw := hid (hw.out.below sex2)
      replace hh := hid (hh.out.below sex2)
      replace hu := hid (hu.out.below sex2)
      replace hB := hid (below_then hB.out hB.out.size sex2)
      clear hHeld sex1 sex2 qr
      clear d0 d1 d2 d3
      clear e0 e1 e2 e3
      clear HSn
      go_wp2_with fail
      go_ret
      exact ⟨rfl, hB.out⟩
end Go.Proofs.Ytnghbfegijnolaa.A
