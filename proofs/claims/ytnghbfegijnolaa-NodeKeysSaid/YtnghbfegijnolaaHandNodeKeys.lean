/-
  NodeKeys, walked.
-/
import Derived.Test.YtnghbfegijnolaaHandNodeSizes
import Derived.Test.YtnghbfegijnolaaB5
import Derived.Carry
namespace Go.Proofs.Ytnghbfegijnolaa.A
set_option linter.unusedVariables false
set_option linter.unusedSimpArgs false
open Go.RowKit Go.Proofs.YtnghbfegijnolaaW.PrintWords Go.Proofs.YtnghbfegijnolaaW.PrintLast Go.Proofs.YtnghbfegijnolaaW.PrintMore
open Go.Lib (hid)
theorem i64_range {k : Int} (h : (Lit.int .i64 k).wf = true) : -9223372036854775808 ≤ k ∧ k ≤ 9223372036854775807 := by
  simp [Lit.wf, IntKind.min, IntKind.max, IntKind.signed, IntKind.bits] at h
  omega
theorem put_all (P : Int → Prop) (x : Nd) (key : Int) (v : ByteArray) (hx : ∀ k ∈ x.keys, P k) (hk : P key) : ∀ k ∈ (putF x key v).keys, P k := by
  intro k h
  unfold putF at h
  split at h
  · have h' : k ∈ x.keys.take (place x.keys key) ++ [key] ++ x.keys.drop (place x.keys key + goneF (isAt x.keys key)) := h
    rw [List.mem_append, List.mem_append, List.mem_singleton] at h'
    rcases h' with (h' | rfl) | h'
    · exact hx k ((List.take_sublist _ _).mem h')
    · exact hk
    · exact hx k ((List.drop_sublist _ _).mem h')
  · exact hx k h
theorem grow_all_go (P : Int → Prop) : ∀ (ps : List (Int × ByteArray)) (x : Nd), (∀ k ∈ x.keys, P k) → (∀ p ∈ ps, P p.1) → ∀ k ∈ (ps.foldl growStep x).keys, P k
  | [], x, h, _ => h
  | p :: ps, x, h, hp => grow_all_go P ps (growStep x p) (put_all P x p.1 (cut40 p.2) h (hp p (List.mem_cons_self ..))) (fun q hq => hp q (List.mem_cons_of_mem _ hq))
theorem grow_all (P : Int → Prop) (ps : List (Int × ByteArray)) (h : ∀ p ∈ ps, P p.1) : ∀ k ∈ (growF ps).keys, P k :=
  grow_all_go P (ps.take 20) ⟨true, [], [], []⟩ (fun k hk => by cases hk) (fun p hp => h p ((List.take_sublist _ _).mem hp))
theorem wpList_lenN {ops : Array Oper} {rest : List Oper} {o : Oper} {a : Act} {w : World} {Q : Exit → Act → World → Prop} (hg : o.guard = none) (m : Operand) (hop : o.op = Op.call { callee := Callee.builtin Builtin.len, args := #[m], argTypes := #[47] })
    (b k : Nat) (x : Nd) (hm : a.eval m = .map (some b)) (hN : MapN w b k x) (hK : wpList Try.prog ops Q rest (a.put o.dst (.int .i64 x.keys.length)) w) : wpList Try.prog ops Q (o :: rest) a w := by
  obtain ⟨D, h1, h2, h3, h4⟩ := hN
  refine Go.wpList_len_own w hg m 47 hop 23 9 Try.underlying47 _ b k D hm h1 ?_
  rw [h3]
  exact hK
theorem wpList_lookN {ops : Array Oper} {rest : List Oper} {o : Oper} {a : Act} {w : World} {Q : Exit → Act → World → Prop} (hg : o.guard = none) (m x : Operand) (hop : o.op = Op.lookup 47 m x true)
    (b k : Nat) (n : Nd) (hm : a.eval m = .map (some b)) (hN : MapN w b k n) (key : Int) (hx : a.eval x = .int .u64 key) (hk : (Lit.int .u64 key).wf = true)
    (hK : wpList Try.prog ops Q rest (a.put o.dst (.tuple #[.string (lookN n key), .bool (isAt n.keys key)])) w) : wpList Try.prog ops Q (o :: rest) a w := by
  refine wpList_plain hg fun K' hK' => ?_
  have hrun := hN.look_ok hk
  unfold Oper.wp
  simp [execOp, hop, hm, hx, hrun, Result.andThen]
  exact hK' _ _ hK
theorem grown_below {w0 w w' : World} {b : Nat} (hB : Below w0.heap.size w0 w) (hg : w.grownBy w' (some b)) (hb : w0.heap.size ≤ b) : Below w0.heap.size w0 w' :=
  hB.grown hg hB.size (fun k hk => by injection hk with hk; subst hk; exact hb)
set_option maxHeartbeats 1000000 in
set_option maxRecDepth 100000 in
theorem NodeKeys_walk (ps : List (Int × ByteArray)) (A0 : Option Addr) (c0 : Nat) (key out : Int) (w : World) (H : (Kd.pair (Kd.int .u64) Kd.string).C w A0 ps.length ps) (hwf : ∀ i, i < ps.length → (Lit.int .u64 (ps.getD i (0, ⟨#[]⟩)).1).wf = true) (hkey : (Lit.int .u64 key).wf = true) (hout : (Lit.int .i64 out).wf = true) :
    Calls Try.prog 5 #[.slice A0 ps.length c0, .int .u64 key, .int .i64 out] w fun e w' => e = .returned (.bool true) ∧ Below w.heap.size w w' := by
  have HG := hid (fun W (hb : Below w.heap.size w W) => grow_walk ps A0 c0 W (Kd.C_below H hb))
  have HE := hid (fun W => examples_walk W)
  have HP := hid (fun i hi => P_at H i hi)
  have hwf' := hid hwf
  have hkey' := hid hkey
  obtain ⟨mx, hmx⟩ : ∃ m, m = min 20 ps.length := ⟨_, rfl⟩
  have hg := hid (show List.foldl growStep ⟨true, [], [], []⟩ ((ps.drop 0).take mx) = growF ps by rw [List.drop_zero, growF]; congr 1; rw [hmx]; rcases Nat.le_total 20 ps.length with h | h; rw [Nat.min_eq_left h]; rw [Nat.min_eq_right h, List.take_of_length_le h, List.take_of_length_le (Nat.le_refl _)])
  have on := grow_ok ps
  have hwfs := grow_all (fun k => (Lit.int .u64 k).wf = true) ps (fun p hp => by obtain ⟨i, hi, rfl⟩ := List.getElem_of_mem hp; have := hwf i hi; rwa [List.getD_eq_getElem?_getD, List.getElem?_eq_getElem hi] at this)
  generalize growF ps = n at *
  clear H hwf hkey
  have hbo := hid (i64_range hout)
  clear hout
  have n1 := on.few
  have n2 := on.same
  have HF := hid (fun u W (h : At W u n) => find_walk n u key W h (by omega))
  rw [show findF n key = (((place n.keys key : Nat) : Int), isAt n.keys key) from if_pos on.leaf] at HF
  have HR := hid (fun v W h => ref_walk n v W h)
  have HS := hid (fun v u W (h : At W v n) (h' : At W u n) => nodes_walk n n v u W h h' (by omega) (by omega) (by rw [on.kids]; decide))
  simp only [same_refl] at HS
  have HW := hid (fun (i : Int) u W (h : At W u n) => without_walk n u i W h (by omega) (by omega) (by rw [on.kids]; decide))
  have z5 := hid (fun h => isAt_get (l := n.keys) (key := key) h)
  have z6 := hid (place_spec on.rise key).1
  have on' := hid on
  have hall := hid (fun i (hi : i < n.keys.length) => hwfs (n.keys.getD i 0) (by rw [getD_of hi]; exact List.getElem_mem _))
  clear hwfs
  clear on
  replace n1 := hid n1
  replace n2 := hid n2
  go_enter Try.func5, Try.ntmps5
  (try dsimp only [List.append])
  go_upto_region 4 with (first | ((with_reducible refine Calls.mono (HE.out _) ?_); rintro r w1 ⟨rfl, hB⟩; replace hB := hid hB))
  clear HE
  go_upto_region 5 with (first | ((with_reducible refine Calls.mono (HG.out _ hB.out) ?_); rintro r w2 ⟨v0, rfl, q0, hbb⟩; obtain ⟨A1, Ac1, A2, Ac2, A3, Ac3, rfl, q1, q2, q3⟩ := q0; have hn := hid (Boxed.new (show At w2 (.agg #[.bool n.leaf, .slice A1 n.keys.length Ac1, .slice A2 n.vals.length Ac2, .slice A3 n.kids.length Ac3]) n from ⟨A1, Ac1, A2, Ac2, A3, Ac3, rfl, q1, q2, q3⟩)); clear q1 q2 q3; replace hB := hid (below_then hB.out hB.out.size hbb); skip; replace hB := hid (below_alloc hB.out (.cells #[.bool n.leaf, .slice A1 n.keys.length Ac1, .slice A2 n.vals.length Ac2, .slice A3 n.kids.length Ac3] 29)); clear hbb))
  change Code.wp _ _ _ _ (w2.alloc (.cells #[.bool n.leaf, .slice A1 n.keys.length Ac1, .slice A2 n.vals.length Ac2, .slice A3 n.kids.length Ac3] 29))
  generalize w2.alloc (.cells #[.bool n.leaf, .slice A1 n.keys.length Ac1, .slice A2 n.vals.length Ac2, .slice A3 n.kids.length Ac3] 29) = w3 at *
  have lhn := hid hn.out.lt
  generalize w2.heap.size = gn at *
  clear HG
  have hM := hid (MapN.new w3)
  have hB3 := hid (below_alloc (Below.refl w3.heap.size w3) (.map #[] 0))
  have hmm := @run_makeMap Try.prog
  go_upto_region 6 with fail
  generalize w3.alloc (.map #[] 0) = w4 at *
  clear hmm
  have hlw := hB.out.size
  generalize hgm : w3.heap.size = gm at *
  replace hgm := hid hgm
  replace hlw := hid hlw
  go_wp2_with fail
  go_loopg [10] mx (fun g v10 wr => ∃ (k : Nat) (x : Nd), v10 = .int .i64 (k : Int) ∧ k + g = mx ∧ Hid (Below gm w3 wr) ∧ Hid (MapN wr gm k x) ∧ Hid (LeafOk x k) ∧ Hid (List.foldl growStep x ((ps.drop k).take g) = n))
  case atStart => exact ⟨0, ⟨true, [], [], []⟩, rfl, by omega, hB3, hM, hid ⟨rfl, rfl, rfl, List.Pairwise.nil, Nat.le_refl _, fun v hv => by cases hv⟩, hg⟩
  case round =>
    clear hM hB3 hg
    obtain ⟨k, x, rfl, hk, hB3, hM, hx, hF⟩ := hrel
    by_cases hlt : k < mx
    · cases gk with
      | zero => omega
      | succ g =>
        have a1 : (k : Int) < (ps.length : Int) := by omega
        have a2 : (k : Int) < 20 := by omega
        obtain ⟨ad, hA, hc1, hc2⟩ := HP.out k (by omega)
        subst hA
        have hwk := hid (hwf'.out k (by omega))
        have hF2 := hF.out
        rw [drop_take_step ps (0, ⟨#[]⟩) k g (by omega), List.foldl_cons] at hF2
        generalize ps.getD k (0, ⟨#[]⟩) = pr at hc1 hc2 hF2 hwk
        obtain ⟨kk, s⟩ := pr
        simp only at hc1 hc2
        have hwk2 : Hid ((Lit.int .u64 kk).wf = true) := hwk
        have hF3 : Hid (List.foldl growStep (putF x kk (cut40 s)) ((ps.drop (k + 1)).take g) = n) := hid hF2
        clear hF hF2 hwk
        have hbw := hid (below_then hB.out (by rw [hgm.out]; exact hlw.out) (by rw [hgm.out]; exact hB3.out))
        have hc1' := hid (pw_cell_below hbw.out hc1)
        have hc2' := hid (pw_cell_below hbw.out hc2)
        clear hc1 hc2
        obtain ⟨w9, hr9, hM9, hg9, hz9⟩ := (hM.out.below (below_drew (Below.refl _ _))).put hx.out hwk2.out (cut40 s) (cut40_le s) (by omega)
        rw [show cut40 s = s.extract 0 (min (s.size : Int) 40).toNat from by rw [cut40, show (min (s.size : Int) 40).toNat = min s.size 40 by omega]] at hr9
        have hr9' := hid hr9
        clear hr9
        replace hM9 := hid hM9
        replace hg9 := hid hg9
        replace hz9 := hid hz9
        have g5 : 0 ≤ min (s.size : Int) 40 := by omega
        have g6 : min (s.size : Int) 40 ≤ (s.size : Int) := by omega
        go_upto_region 9 with fail
        clear a2
        refine start_ (n := 20) (S := fun w' => Below wr.heap.size wr w') (ds := [19]) #[false, false, false, false, false, false, false, false, false, false, false, false, false, false, false, false, false, false, false, false] (by kernel_rfl) rfl rfl (below_drew (Below.refl _ _)) (fun hHeld => ?_)
        refine pure_ (i := 0) (N := some 36) (v := ?_) (a' := ?_) #[true, false, false, false, false, false, false, false, false, false, false, false, false, false, false, false, false, false, false, false] rfl rfl (by kernel_rfl) (fun _ _ _ h => h) (Or.inl ⟨by rfl, ?_⟩) ?_ ?_
        rotate_left
        · intro w'
          go_simp
          with_reducible rfl
        rotate_left
        · simp only [Act.put, List.setIfInBounds_toArray, List.set_cons_zero, List.set_cons_succ, i64_w, i32_w]
          rfl
        refine pure_ (i := 1) (N := some 37) (v := ?_) (a' := ?_) #[true, true, false, false, false, false, false, false, false, false, false, false, false, false, false, false, false, false, false, false] rfl rfl (by kernel_rfl) (fun _ _ _ h => h) (Or.inl ⟨by rfl, ?_⟩) ?_ ?_
        rotate_left
        · intro w'
          go_simp
          with_reducible rfl
        rotate_left
        · simp only [Act.put, List.setIfInBounds_toArray, List.set_cons_zero, List.set_cons_succ, i64_w, i32_w]
          rfl
        refine pure_ (i := 2) (N := some 38) (v := ?_) (a' := ?_) #[true, true, true, false, false, false, false, false, false, false, false, false, false, false, false, false, false, false, false, false] rfl rfl (by kernel_rfl) (fun _ _ _ h => h) (Or.inl ⟨by rfl, ?_⟩) ?_ ?_
        rotate_left
        · intro w'
          go_simp
          with_reducible rfl
        rotate_left
        · simp only [Act.put, List.setIfInBounds_toArray, List.set_cons_zero, List.set_cons_succ, i64_w, i32_w]
          rfl
        refine pure_ (i := 3) (N := some 39) (v := ?_) (a' := ?_) #[true, true, true, true, false, false, false, false, false, false, false, false, false, false, false, false, false, false, false, false] rfl rfl (by kernel_rfl) (fun _ _ _ h => h) (Or.inl ⟨by rfl, ?_⟩) ?_ ?_
        rotate_left
        · intro w'
          go_simp
          with_reducible rfl
        rotate_left
        · simp only [Act.put, List.setIfInBounds_toArray, List.set_cons_zero, List.set_cons_succ, i64_w, i32_w]
          rfl
        refine pure_ (i := 4) (N := some 40) (v := ?_) (a' := ?_) #[true, true, true, true, true, false, false, false, false, false, false, false, false, false, false, false, false, false, false, false] rfl rfl (by kernel_rfl) (fun _ _ _ h => h) (Or.inl ⟨by rfl, ?_⟩) ?_ ?_
        rotate_left
        · intro w'
          go_simp
          with_reducible rfl
        rotate_left
        · simp only [Act.put, List.setIfInBounds_toArray, List.set_cons_zero, List.set_cons_succ, i64_w, i32_w]
          rfl
        refine take_ (i := 5) (N := some 41) (v := ?_) (a' := ?_) #[true, true, true, true, true, true, false, false, false, false, false, false, false, false, false, false, false, false, false, false] rfl rfl (by kernel_rfl) (fun _ _ _ h => h) (Or.inl ⟨by rfl, ?_⟩) hHeld ?_ ?_
        rotate_left
        · rintro w' hb'
          have dd := pw_cell_below hb' hc1'.out
          go_simp
          with_reducible rfl
        rotate_left
        · simp only [Act.put, List.setIfInBounds_toArray, List.set_cons_zero, List.set_cons_succ, i64_w, i32_w]
          rfl
        refine pure_ (i := 6) (N := some 42) (v := ?_) (a' := ?_) #[true, true, true, true, true, true, true, false, false, false, false, false, false, false, false, false, false, false, false, false] rfl rfl (by kernel_rfl) (fun _ _ _ h => h) (Or.inl ⟨by rfl, ?_⟩) ?_ ?_
        rotate_left
        · intro w'
          go_simp
          with_reducible rfl
        rotate_left
        · simp only [Act.put, List.setIfInBounds_toArray, List.set_cons_zero, List.set_cons_succ, i64_w, i32_w]
          rfl
        refine pure_ (i := 7) (N := some 43) (v := ?_) (a' := ?_) #[true, true, true, true, true, true, true, true, false, false, false, false, false, false, false, false, false, false, false, false] rfl rfl (by kernel_rfl) (fun _ _ _ h => h) (Or.inl ⟨by rfl, ?_⟩) ?_ ?_
        rotate_left
        · intro w'
          go_simp
          with_reducible rfl
        rotate_left
        · simp only [Act.put, List.setIfInBounds_toArray, List.set_cons_zero, List.set_cons_succ, i64_w, i32_w]
          rfl
        refine pure_ (i := 8) (N := some 44) (v := ?_) (a' := ?_) #[true, true, true, true, true, true, true, true, true, false, false, false, false, false, false, false, false, false, false, false] rfl rfl (by kernel_rfl) (fun _ _ _ h => h) (Or.inl ⟨by rfl, ?_⟩) ?_ ?_
        rotate_left
        · intro w'
          go_simp
          with_reducible rfl
        rotate_left
        · simp only [Act.put, List.setIfInBounds_toArray, List.set_cons_zero, List.set_cons_succ, i64_w, i32_w]
          rfl
        refine pure_ (i := 9) (N := some 45) (v := ?_) (a' := ?_) #[true, true, true, true, true, true, true, true, true, true, false, false, false, false, false, false, false, false, false, false] rfl rfl (by kernel_rfl) (fun _ _ _ h => h) (Or.inl ⟨by rfl, ?_⟩) ?_ ?_
        rotate_left
        · intro w'
          go_simp
          with_reducible rfl
        rotate_left
        · simp only [Act.put, List.setIfInBounds_toArray, List.set_cons_zero, List.set_cons_succ, i64_w, i32_w]
          rfl
        refine take_ (i := 10) (N := some 46) (v := ?_) (a' := ?_) #[true, true, true, true, true, true, true, true, true, true, true, false, false, false, false, false, false, false, false, false] rfl rfl (by kernel_rfl) (fun _ _ _ h => h) (Or.inl ⟨by rfl, ?_⟩) hHeld ?_ ?_
        rotate_left
        · rintro w' hb'
          have dd := pw_cell_below hb' hc2'.out
          go_simp
          with_reducible rfl
        rotate_left
        · simp only [Act.put, List.setIfInBounds_toArray, List.set_cons_zero, List.set_cons_succ, i64_w, i32_w]
          rfl
        refine pure_ (i := 11) (N := some 47) (v := ?_) (a' := ?_) #[true, true, true, true, true, true, true, true, true, true, true, true, false, false, false, false, false, false, false, false] rfl rfl (by kernel_rfl) (fun _ _ _ h => h) (Or.inl ⟨by rfl, ?_⟩) ?_ ?_
        rotate_left
        · intro w'
          go_simp
          with_reducible rfl
        rotate_left
        · simp only [Act.put, List.setIfInBounds_toArray, List.set_cons_zero, List.set_cons_succ, i64_w, i32_w]
          rfl
        refine pure_ (i := 12) (N := some 48) (v := ?_) (a' := ?_) #[true, true, true, true, true, true, true, true, true, true, true, true, true, false, false, false, false, false, false, false] rfl rfl (by kernel_rfl) (fun _ _ _ h => h) (Or.inl ⟨by rfl, ?_⟩) ?_ ?_
        rotate_left
        · intro w'
          go_simp
          with_reducible rfl
        rotate_left
        · simp only [Act.put, List.setIfInBounds_toArray, List.set_cons_zero, List.set_cons_succ, i64_w, i32_w]
          rfl
        refine pure_ (i := 13) (N := some 49) (v := ?_) (a' := ?_) #[true, true, true, true, true, true, true, true, true, true, true, true, true, true, false, false, false, false, false, false] rfl rfl (by kernel_rfl) (fun _ _ _ h => h) (Or.inl ⟨by rfl, ?_⟩) ?_ ?_
        rotate_left
        · intro w'
          go_simp
          with_reducible rfl
        rotate_left
        · simp only [Act.put, List.setIfInBounds_toArray, List.set_cons_zero, List.set_cons_succ, i64_w, i32_w]
          rfl
        refine pure_ (i := 14) (N := some 50) (v := ?_) (a' := ?_) #[true, true, true, true, true, true, true, true, true, true, true, true, true, true, true, false, false, false, false, false] rfl rfl (by kernel_rfl) (fun _ _ _ h => h) (Or.inl ⟨by rfl, ?_⟩) ?_ ?_
        rotate_left
        · intro w'
          go_simp
          with_reducible rfl
        rotate_left
        · simp only [Act.put, List.setIfInBounds_toArray, List.set_cons_zero, List.set_cons_succ, i64_w, i32_w]
          rfl
        refine take_ (i := 15) (N := some 51) (v := ?_) (a' := ?_) #[true, true, true, true, true, true, true, true, true, true, true, true, true, true, true, true, false, false, false, false] rfl rfl (by kernel_rfl) (fun _ _ _ h => h) (Or.inl ⟨by rfl, ?_⟩) hHeld ?_ ?_
        rotate_left
        · rintro w' hb'
          have dd := pw_cell_below hb' hc2'.out
          go_simp
          with_reducible rfl
        rotate_left
        · simp only [Act.put, List.setIfInBounds_toArray, List.set_cons_zero, List.set_cons_succ, i64_w, i32_w]
          rfl
        refine pure_ (i := 16) (N := some 52) (v := ?_) (a' := ?_) #[true, true, true, true, true, true, true, true, true, true, true, true, true, true, true, true, true, false, false, false] rfl rfl (by kernel_rfl) (fun _ _ _ h => h) (Or.inl ⟨by rfl, ?_⟩) ?_ ?_
        rotate_left
        · intro w'
          go_simp
          with_reducible rfl
        rotate_left
        · simp only [Act.put, List.setIfInBounds_toArray, List.set_cons_zero, List.set_cons_succ, i64_w, i32_w]
          rfl
        refine pure_ (i := 17) (N := some 53) (v := ?_) (a' := ?_) #[true, true, true, true, true, true, true, true, true, true, true, true, true, true, true, true, true, true, false, false] rfl rfl (by kernel_rfl) (fun _ _ _ h => h) (Or.inl ⟨by rfl, ?_⟩) ?_ ?_
        rotate_left
        · intro w'
          go_simp
          with_reducible rfl
        rotate_left
        · simp only [Act.put, List.setIfInBounds_toArray, List.set_cons_zero, List.set_cons_succ, i64_w, i32_w]
          rfl
        refine pure_ (i := 18) (N := some 54) (v := ?_) (a' := ?_) #[true, true, true, true, true, true, true, true, true, true, true, true, true, true, true, true, true, true, true, false] rfl rfl (by kernel_rfl) (fun _ _ _ h => h) (Or.inl ⟨by rfl, ?_⟩) ?_ ?_
        rotate_left
        · intro w'
          go_simp
          with_reducible rfl
        rotate_left
        · simp only [Act.put, List.setIfInBounds_toArray, List.set_cons_zero, List.set_cons_succ, i64_w, i32_w]
          rfl
        refine last_ (i := 19) (N := none) #[true, true, true, true, true, true, true, true, true, true, true, true, true, true, true, true, true, true, true, true] rfl rfl (by kernel_rfl) (by decide) (fun K hK => ?_)
        refine skip_ (w1 := w9) (by rfl) rfl (mapskip_ (mv := .map (some gm)) (key := .int .u64 kk) (val := .string (s.extract 0 (min (s.size : Int) 40).toNat)) rfl (by rfl) (by rfl) (by rfl) hr9'.out) ?_
        refine hK.out _ _ ?_
        clear hK K
        refine done_ (by kernel_rfl) ?_
        clear hHeld a1 g5 g6
        replace hB3 := hid (grown_below (w0 := w3) (by rw [hgm.out]; exact below_drew hB3.out) hg9.out (by rw [hgm.out]; exact Nat.le_refl _))
        rw [hgm.out] at hB3
        have hx9 := hid (hx.out.put kk (cut40 s) (cut40_le s))
        go_wp2_with fail
        go_roundg g
        case measure => omega
        case rel => exact ⟨k + 1, putF x kk (cut40 s), by first | rfl | go_num, by omega, hB3, hM9, hx9, hF3⟩
    · obtain rfl : gk = 0 := by omega
      have a1 : ¬ ((k : Int) < (ps.length : Int)) ∨ ((k : Int) < (ps.length : Int) ∧ ¬ ((k : Int) < 20)) := by omega
      have hk0 : mx = k := by omega
      subst hk0
      have hE := hF.out
      rw [List.take_zero, List.foldl_nil] at hE
      replace hE := hE.symm
      subst hE
      clear hF hx
      clear HP hmx hk hlt
      go_upto_region 7 with fail
      go_cut [33] (fun s33 wx => s33 = .bool false ∧ wr = wx)
      case first =>
        rcases a1 with a1 | ⟨a1, a2⟩ <;>
        · go_wp2_with fail
          go_meet
          exact ⟨rfl, rfl⟩
      case rest =>
        obtain ⟨rfl, rfl⟩ := hcut
        clear a1
        replace hn := hid (hn.out.below (by rw [hgm.out]; exact hB3.out))
        replace hB := hid (below_then hB.out (by rw [hgm.out]; exact hlw.out) (by rw [hgm.out]; exact hB3.out))
        clear hB3 hlw hgm
        have g1 : (n.vals.length : Int) = (n.keys.length : Int) := by have := n2.out; omega
        have d0 : wr.cell? ⟨gn, 0, none⟩ = some (.bool n.leaf) := (blk_cell hn.out.box 0).trans rfl
        have d1 : wr.cell? ⟨gn, 1, none⟩ = some (.slice A1 n.keys.length Ac1) := (blk_cell hn.out.box 1).trans rfl
        have d2 : wr.cell? ⟨gn, 2, none⟩ = some (.slice A2 n.vals.length Ac2) := (blk_cell hn.out.box 2).trans rfl
        have d3 : wr.cell? ⟨gn, 3, none⟩ = some (.slice A3 n.kids.length Ac3) := (blk_cell hn.out.box 3).trans rfl
        go_upto_region 12 with (first | (at_len; (try (refine gate_guard (by rfl) ?_; dsimp only)); refine wpList_lenN rfl _ rfl gm _ n rfl hM.out ?_))
        clear g1 d0 d1 d2 d3
        go_wp2_with fail
        go_loopg [11] n.keys.length (fun g v11 wx => ∃ k : Nat, v11 = .int .i64 (k : Int) ∧ k + g = n.keys.length ∧ Hid (Boxed wx gn #[.bool n.leaf, .slice A1 n.keys.length Ac1, .slice A2 n.vals.length Ac2, .slice A3 n.kids.length Ac3] n) ∧ Hid (MapN wx gm mx n) ∧ Hid (Below w.heap.size w wx))
        case atStart => exact ⟨0, rfl, by omega, hn, hM, hB⟩
        case round =>
          clear hn hM hB
          obtain ⟨k, rfl, hk, hn, hM, hB⟩ := hrel
          by_cases hlt : k < n.keys.length
          · cases gk with
            | zero => omega
            | succ g =>
              have a1 : (k : Int) < (n.keys.length : Int) := by omega
              have d0 : wr.cell? ⟨gn, 0, none⟩ = some (.bool n.leaf) := (blk_cell hn.out.box 0).trans rfl
              have d1 : wr.cell? ⟨gn, 1, none⟩ = some (.slice A1 n.keys.length Ac1) := (blk_cell hn.out.box 1).trans rfl
              have d2 : wr.cell? ⟨gn, 2, none⟩ = some (.slice A2 n.vals.length Ac2) := (blk_cell hn.out.box 2).trans rfl
              have d3 : wr.cell? ⟨gn, 3, none⟩ = some (.slice A3 n.kids.length Ac3) := (blk_cell hn.out.box 3).trans rfl
              go_upto_region 15 with fail
              obtain ⟨ak, hA1, hck⟩ := hn.out.at_.key k hlt
              subst hA1
              obtain ⟨av, hA2, hcv⟩ := hn.out.at_.val k (by have := n2.out; omega)
              subst hA2
              have hlook := hM.out.look (k := n.keys.getD k 0) (hall.out k hlt)
              rw [look_at on'.out hlt] at hlook
              replace hlook := hid hlook
              have a2 : (k : Int) < (n.vals.length : Int) := by have := n2.out; omega
              clear d0 d1 d2 d3
              have d0 : wr.cell? ⟨gn, 0, none⟩ = some (.bool n.leaf) := (blk_cell hn.out.box 0).trans rfl
              have d1 : wr.cell? ⟨gn, 1, none⟩ = some (.slice (some ak) n.keys.length Ac1) := (blk_cell hn.out.box 1).trans rfl
              have d2 : wr.cell? ⟨gn, 2, none⟩ = some (.slice (some av) n.vals.length Ac2) := (blk_cell hn.out.box 2).trans rfl
              have d3 : wr.cell? ⟨gn, 3, none⟩ = some (.slice A3 n.kids.length Ac3) := (blk_cell hn.out.box 3).trans rfl
              have hlk := hid (fun w' (hb' : Below wr.heap.size wr w') => by have z := (hM.out.below hb').look (k := n.keys.getD k 0) (hall.out k hlt); rw [look_at on'.out hlt] at z; exact z)
              clear hlook
              cases k with
              | zero =>
                have ad0 : ∀ ad : Addr, ad.add 0 = ad := fun ad => by simp [Addr.add]
                rw [ad0] at hck hcv
                clear ad0
                have g9 : 0 < n.vals.length := by omega
                generalize n.keys.getD 0 0 = kv at *
                generalize n.vals.getD 0 ⟨#[]⟩ = vv at *
                refine start_ (n := 31) (S := fun w' => Below wr.heap.size wr w') (ds := []) #[false, false, false, false, false, false, false, false, false, false, false, false, false, false, false, false, false, false, false, false, false, false, false, false, false, false, false, false, false, false, false] (by kernel_rfl) rfl rfl (below_drew (Below.refl _ _)) (fun hHeld => ?_)
                refine pure_ (i := 0) (N := some 76) (v := ?_) (a' := ?_) #[true, false, false, false, false, false, false, false, false, false, false, false, false, false, false, false, false, false, false, false, false, false, false, false, false, false, false, false, false, false, false] rfl rfl (by kernel_rfl) (fun _ _ _ h => h) (Or.inl ⟨by rfl, ?_⟩) ?_ ?_
                rotate_left
                · intro w'
                  go_simp
                  with_reducible rfl
                rotate_left
                · simp only [Act.put, List.setIfInBounds_toArray, List.set_cons_zero, List.set_cons_succ, i64_w, i32_w]
                  rfl
                refine pure_ (i := 1) (N := some 77) (v := ?_) (a' := ?_) #[true, true, false, false, false, false, false, false, false, false, false, false, false, false, false, false, false, false, false, false, false, false, false, false, false, false, false, false, false, false, false] rfl rfl (by kernel_rfl) (fun _ _ _ h => h) (Or.inl ⟨by rfl, ?_⟩) ?_ ?_
                rotate_left
                · intro w'
                  go_simp
                  with_reducible rfl
                rotate_left
                · simp only [Act.put, List.setIfInBounds_toArray, List.set_cons_zero, List.set_cons_succ, i64_w, i32_w]
                  rfl
                refine pure_ (i := 2) (N := some 78) (v := ?_) (a' := ?_) #[true, true, true, false, false, false, false, false, false, false, false, false, false, false, false, false, false, false, false, false, false, false, false, false, false, false, false, false, false, false, false] rfl rfl (by kernel_rfl) (fun _ _ _ h => h) (Or.inl ⟨by rfl, ?_⟩) ?_ ?_
                rotate_left
                · intro w'
                  go_simp
                  with_reducible rfl
                rotate_left
                · simp only [Act.put, List.setIfInBounds_toArray, List.set_cons_zero, List.set_cons_succ, i64_w, i32_w]
                  rfl
                refine pure_ (i := 3) (N := some 79) (v := undef) (a' := ?_) #[true, true, true, true, false, false, false, false, false, false, false, false, false, false, false, false, false, false, false, false, false, false, false, false, false, false, false, false, false, false, false] rfl rfl (by kernel_rfl) (fun _ _ _ h => h) (Or.inr ⟨by rfl, rfl⟩) ?_ ?_
                rotate_left
                · simp only [Act.put, List.setIfInBounds_toArray, List.set_cons_zero, List.set_cons_succ, i64_w, i32_w]
                  rfl
                refine pure_ (i := 4) (N := some 80) (v := undef) (a' := ?_) #[true, true, true, true, true, false, false, false, false, false, false, false, false, false, false, false, false, false, false, false, false, false, false, false, false, false, false, false, false, false, false] rfl rfl (by kernel_rfl) (fun _ _ _ h => h) (Or.inr ⟨by rfl, rfl⟩) ?_ ?_
                rotate_left
                · simp only [Act.put, List.setIfInBounds_toArray, List.set_cons_zero, List.set_cons_succ, i64_w, i32_w]
                  rfl
                refine pure_ (i := 5) (N := some 81) (v := undef) (a' := ?_) #[true, true, true, true, true, true, false, false, false, false, false, false, false, false, false, false, false, false, false, false, false, false, false, false, false, false, false, false, false, false, false] rfl rfl (by kernel_rfl) (fun _ _ _ h => h) (Or.inr ⟨by rfl, rfl⟩) ?_ ?_
                rotate_left
                · simp only [Act.put, List.setIfInBounds_toArray, List.set_cons_zero, List.set_cons_succ, i64_w, i32_w]
                  rfl
                refine pure_ (i := 6) (N := some 82) (v := undef) (a' := ?_) #[true, true, true, true, true, true, true, false, false, false, false, false, false, false, false, false, false, false, false, false, false, false, false, false, false, false, false, false, false, false, false] rfl rfl (by kernel_rfl) (fun _ _ _ h => h) (Or.inr ⟨by rfl, rfl⟩) ?_ ?_
                rotate_left
                · simp only [Act.put, List.setIfInBounds_toArray, List.set_cons_zero, List.set_cons_succ, i64_w, i32_w]
                  rfl
                refine pure_ (i := 7) (N := some 83) (v := undef) (a' := ?_) #[true, true, true, true, true, true, true, true, false, false, false, false, false, false, false, false, false, false, false, false, false, false, false, false, false, false, false, false, false, false, false] rfl rfl (by kernel_rfl) (fun _ _ _ h => h) (Or.inr ⟨by rfl, rfl⟩) ?_ ?_
                rotate_left
                · simp only [Act.put, List.setIfInBounds_toArray, List.set_cons_zero, List.set_cons_succ, i64_w, i32_w]
                  rfl
                refine pure_ (i := 8) (N := some 84) (v := undef) (a' := ?_) #[true, true, true, true, true, true, true, true, true, false, false, false, false, false, false, false, false, false, false, false, false, false, false, false, false, false, false, false, false, false, false] rfl rfl (by kernel_rfl) (fun _ _ _ h => h) (Or.inr ⟨by rfl, rfl⟩) ?_ ?_
                rotate_left
                · simp only [Act.put, List.setIfInBounds_toArray, List.set_cons_zero, List.set_cons_succ, i64_w, i32_w]
                  rfl
                refine pure_ (i := 9) (N := some 85) (v := undef) (a' := ?_) #[true, true, true, true, true, true, true, true, true, true, false, false, false, false, false, false, false, false, false, false, false, false, false, false, false, false, false, false, false, false, false] rfl rfl (by kernel_rfl) (fun _ _ _ h => h) (Or.inr ⟨by rfl, rfl⟩) ?_ ?_
                rotate_left
                · simp only [Act.put, List.setIfInBounds_toArray, List.set_cons_zero, List.set_cons_succ, i64_w, i32_w]
                  rfl
                refine pure_ (i := 10) (N := some 86) (v := undef) (a' := ?_) #[true, true, true, true, true, true, true, true, true, true, true, false, false, false, false, false, false, false, false, false, false, false, false, false, false, false, false, false, false, false, false] rfl rfl (by kernel_rfl) (fun _ _ _ h => h) (Or.inr ⟨by rfl, rfl⟩) ?_ ?_
                rotate_left
                · simp only [Act.put, List.setIfInBounds_toArray, List.set_cons_zero, List.set_cons_succ, i64_w, i32_w]
                  rfl
                refine pure_ (i := 11) (N := some 87) (v := undef) (a' := ?_) #[true, true, true, true, true, true, true, true, true, true, true, true, false, false, false, false, false, false, false, false, false, false, false, false, false, false, false, false, false, false, false] rfl rfl (by kernel_rfl) (fun _ _ _ h => h) (Or.inr ⟨by rfl, rfl⟩) ?_ ?_
                rotate_left
                · simp only [Act.put, List.setIfInBounds_toArray, List.set_cons_zero, List.set_cons_succ, i64_w, i32_w]
                  rfl
                refine pure_ (i := 12) (N := some 88) (v := undef) (a' := ?_) #[true, true, true, true, true, true, true, true, true, true, true, true, true, false, false, false, false, false, false, false, false, false, false, false, false, false, false, false, false, false, false] rfl rfl (by kernel_rfl) (fun _ _ _ h => h) (Or.inr ⟨by rfl, rfl⟩) ?_ ?_
                rotate_left
                · simp only [Act.put, List.setIfInBounds_toArray, List.set_cons_zero, List.set_cons_succ, i64_w, i32_w]
                  rfl
                refine pure_ (i := 13) (N := some 89) (v := undef) (a' := ?_) #[true, true, true, true, true, true, true, true, true, true, true, true, true, true, false, false, false, false, false, false, false, false, false, false, false, false, false, false, false, false, false] rfl rfl (by kernel_rfl) (fun _ _ _ h => h) (Or.inr ⟨by rfl, rfl⟩) ?_ ?_
                rotate_left
                · simp only [Act.put, List.setIfInBounds_toArray, List.set_cons_zero, List.set_cons_succ, i64_w, i32_w]
                  rfl
                refine pure_ (i := 14) (N := some 90) (v := undef) (a' := ?_) #[true, true, true, true, true, true, true, true, true, true, true, true, true, true, true, false, false, false, false, false, false, false, false, false, false, false, false, false, false, false, false] rfl rfl (by kernel_rfl) (fun _ _ _ h => h) (Or.inr ⟨by rfl, rfl⟩) ?_ ?_
                rotate_left
                · simp only [Act.put, List.setIfInBounds_toArray, List.set_cons_zero, List.set_cons_succ, i64_w, i32_w]
                  rfl
                refine pure_ (i := 15) (N := some 91) (v := ?_) (a' := ?_) #[true, true, true, true, true, true, true, true, true, true, true, true, true, true, true, true, false, false, false, false, false, false, false, false, false, false, false, false, false, false, false] rfl rfl (by kernel_rfl) (fun _ _ _ h => h) (Or.inl ⟨by rfl, ?_⟩) ?_ ?_
                rotate_left
                · intro w'
                  go_simp
                  with_reducible rfl
                rotate_left
                · simp only [Act.put, List.setIfInBounds_toArray, List.set_cons_zero, List.set_cons_succ, i64_w, i32_w]
                  rfl
                refine pure_ (i := 16) (N := some 92) (v := ?_) (a' := ?_) #[true, true, true, true, true, true, true, true, true, true, true, true, true, true, true, true, true, false, false, false, false, false, false, false, false, false, false, false, false, false, false] rfl rfl (by kernel_rfl) (fun _ _ _ h => h) (Or.inl ⟨by rfl, ?_⟩) ?_ ?_
                rotate_left
                · intro w'
                  go_simp
                  with_reducible rfl
                rotate_left
                · simp only [Act.put, List.setIfInBounds_toArray, List.set_cons_zero, List.set_cons_succ, i64_w, i32_w]
                  rfl
                refine pure_ (i := 17) (N := some 93) (v := ?_) (a' := ?_) #[true, true, true, true, true, true, true, true, true, true, true, true, true, true, true, true, true, true, false, false, false, false, false, false, false, false, false, false, false, false, false] rfl rfl (by kernel_rfl) (fun _ _ _ h => h) (Or.inl ⟨by rfl, ?_⟩) ?_ ?_
                rotate_left
                · intro w'
                  go_simp
                  with_reducible rfl
                rotate_left
                · simp only [Act.put, List.setIfInBounds_toArray, List.set_cons_zero, List.set_cons_succ, i64_w, i32_w]
                  rfl
                refine pure_ (i := 18) (N := some 94) (v := ?_) (a' := ?_) #[true, true, true, true, true, true, true, true, true, true, true, true, true, true, true, true, true, true, true, false, false, false, false, false, false, false, false, false, false, false, false] rfl rfl (by kernel_rfl) (fun _ _ _ h => h) (Or.inl ⟨by rfl, ?_⟩) ?_ ?_
                rotate_left
                · intro w'
                  go_simp
                  with_reducible rfl
                rotate_left
                · simp only [Act.put, List.setIfInBounds_toArray, List.set_cons_zero, List.set_cons_succ, i64_w, i32_w]
                  rfl
                refine take_ (i := 19) (N := some 95) (v := ?_) (a' := ?_) #[true, true, true, true, true, true, true, true, true, true, true, true, true, true, true, true, true, true, true, true, false, false, false, false, false, false, false, false, false, false, false] rfl rfl (by kernel_rfl) (fun _ _ _ h => h) (Or.inl ⟨by rfl, ?_⟩) hHeld ?_ ?_
                rotate_left
                · rintro w' hb'
                  have dd := pw_cell_below hb' d1
                  go_simp
                  with_reducible rfl
                rotate_left
                · simp only [Act.put, List.setIfInBounds_toArray, List.set_cons_zero, List.set_cons_succ, i64_w, i32_w]
                  rfl
                refine pure_ (i := 20) (N := some 96) (v := ?_) (a' := ?_) #[true, true, true, true, true, true, true, true, true, true, true, true, true, true, true, true, true, true, true, true, true, false, false, false, false, false, false, false, false, false, false] rfl rfl (by kernel_rfl) (fun _ _ _ h => h) (Or.inl ⟨by rfl, ?_⟩) ?_ ?_
                rotate_left
                · intro w'
                  go_simp
                  with_reducible rfl
                rotate_left
                · simp only [Act.put, List.setIfInBounds_toArray, List.set_cons_zero, List.set_cons_succ, i64_w, i32_w]
                  rfl
                refine pure_ (i := 21) (N := some 97) (v := ?_) (a' := ?_) #[true, true, true, true, true, true, true, true, true, true, true, true, true, true, true, true, true, true, true, true, true, true, false, false, false, false, false, false, false, false, false] rfl rfl (by kernel_rfl) (fun _ _ _ h => h) (Or.inl ⟨by rfl, ?_⟩) ?_ ?_
                rotate_left
                · intro w'
                  go_simp
                  with_reducible rfl
                rotate_left
                · simp only [Act.put, List.setIfInBounds_toArray, List.set_cons_zero, List.set_cons_succ, i64_w, i32_w]
                  rfl
                refine take_ (i := 22) (N := some 98) (v := ?_) (a' := ?_) #[true, true, true, true, true, true, true, true, true, true, true, true, true, true, true, true, true, true, true, true, true, true, true, false, false, false, false, false, false, false, false] rfl rfl (by kernel_rfl) (fun _ _ _ h => h) (Or.inl ⟨by rfl, ?_⟩) hHeld ?_ ?_
                rotate_left
                · rintro w' hb'
                  have dd := pw_cell_below hb' hck
                  go_simp
                  with_reducible rfl
                rotate_left
                · simp only [Act.put, List.setIfInBounds_toArray, List.set_cons_zero, List.set_cons_succ, i64_w, i32_w]
                  rfl
                refine take_ (i := 23) (N := some 99) (v := .string vv) (a' := ?_) #[true, true, true, true, true, true, true, true, true, true, true, true, true, true, true, true, true, true, true, true, true, true, true, true, false, false, false, false, false, false, false] rfl rfl (by kernel_rfl) (fun _ _ _ h => h) (Or.inl ⟨by rfl, ?_⟩) hHeld ?_ ?_
                · rintro w' hb'
                  exact maplook_ (mv := .map (some gm)) (key := .int .u64 kv) rfl (by rfl) (by rfl) (hlk.out w' hb')
                rotate_left
                · simp only [Act.put, List.setIfInBounds_toArray, List.set_cons_zero, List.set_cons_succ, i64_w, i32_w]
                  rfl
                refine pure_ (i := 24) (N := some 100) (v := ?_) (a' := ?_) #[true, true, true, true, true, true, true, true, true, true, true, true, true, true, true, true, true, true, true, true, true, true, true, true, true, false, false, false, false, false, false] rfl rfl (by kernel_rfl) (fun _ _ _ h => h) (Or.inl ⟨by rfl, ?_⟩) ?_ ?_
                rotate_left
                · intro w'
                  go_simp
                  with_reducible rfl
                rotate_left
                · simp only [Act.put, List.setIfInBounds_toArray, List.set_cons_zero, List.set_cons_succ, i64_w, i32_w]
                  rfl
                refine take_ (i := 25) (N := some 101) (v := ?_) (a' := ?_) #[true, true, true, true, true, true, true, true, true, true, true, true, true, true, true, true, true, true, true, true, true, true, true, true, true, true, false, false, false, false, false] rfl rfl (by kernel_rfl) (fun _ _ _ h => h) (Or.inl ⟨by rfl, ?_⟩) hHeld ?_ ?_
                rotate_left
                · rintro w' hb'
                  have dd := pw_cell_below hb' d2
                  go_simp
                  with_reducible rfl
                rotate_left
                · simp only [Act.put, List.setIfInBounds_toArray, List.set_cons_zero, List.set_cons_succ, i64_w, i32_w]
                  rfl
                refine pure_ (i := 26) (N := some 102) (v := ?_) (a' := ?_) #[true, true, true, true, true, true, true, true, true, true, true, true, true, true, true, true, true, true, true, true, true, true, true, true, true, true, true, false, false, false, false] rfl rfl (by kernel_rfl) (fun _ _ _ h => h) (Or.inl ⟨by rfl, ?_⟩) ?_ ?_
                rotate_left
                · intro w'
                  go_simp
                  with_reducible rfl
                rotate_left
                · simp only [Act.put, List.setIfInBounds_toArray, List.set_cons_zero, List.set_cons_succ, i64_w, i32_w]
                  rfl
                refine pure_ (i := 27) (N := some 103) (v := ?_) (a' := ?_) #[true, true, true, true, true, true, true, true, true, true, true, true, true, true, true, true, true, true, true, true, true, true, true, true, true, true, true, true, false, false, false] rfl rfl (by kernel_rfl) (fun _ _ _ h => h) (Or.inl ⟨by rfl, ?_⟩) ?_ ?_
                rotate_left
                · intro w'
                  go_simp
                  with_reducible rfl
                rotate_left
                · simp only [Act.put, List.setIfInBounds_toArray, List.set_cons_zero, List.set_cons_succ, i64_w, i32_w]
                  rfl
                refine take_ (i := 28) (N := some 104) (v := ?_) (a' := ?_) #[true, true, true, true, true, true, true, true, true, true, true, true, true, true, true, true, true, true, true, true, true, true, true, true, true, true, true, true, true, false, false] rfl rfl (by kernel_rfl) (fun _ _ _ h => h) (Or.inl ⟨by rfl, ?_⟩) hHeld ?_ ?_
                rotate_left
                · rintro w' hb'
                  have dd := pw_cell_below hb' hcv
                  go_simp
                  with_reducible rfl
                rotate_left
                · simp only [Act.put, List.setIfInBounds_toArray, List.set_cons_zero, List.set_cons_succ, i64_w, i32_w]
                  rfl
                refine pure_ (i := 29) (N := some 105) (v := ?_) (a' := ?_) #[true, true, true, true, true, true, true, true, true, true, true, true, true, true, true, true, true, true, true, true, true, true, true, true, true, true, true, true, true, true, false] rfl rfl (by kernel_rfl) (fun _ _ _ h => h) (Or.inl ⟨by rfl, ?_⟩) ?_ ?_
                rotate_left
                · intro w'
                  go_simp
                  with_reducible rfl
                rotate_left
                · simp only [Act.put, List.setIfInBounds_toArray, List.set_cons_zero, List.set_cons_succ, i64_w, i32_w]
                  rfl
                refine pure_ (i := 30) (N := some 106) (v := ?_) (a' := ?_) #[true, true, true, true, true, true, true, true, true, true, true, true, true, true, true, true, true, true, true, true, true, true, true, true, true, true, true, true, true, true, true] rfl rfl (by kernel_rfl) (fun _ _ _ h => h) (Or.inl ⟨by rfl, ?_⟩) ?_ ?_
                rotate_left
                · intro w'
                  go_simp
                  with_reducible rfl
                rotate_left
                · simp only [Act.put, List.setIfInBounds_toArray, List.set_cons_zero, List.set_cons_succ, i64_w, i32_w]
                  rfl
                refine done_ (by kernel_rfl) ?_
                replace hn := hid (hn.out.below (below_drew (Below.refl _ _)))
                replace hM := hid (hM.out.below (below_drew (Below.refl _ _)))
                replace hB := hid (below_drew hB.out)
                clear hHeld hlk hck hcv a2 g9 d0 d1 d2 d3
                go_wp2_with fail
                go_roundg g
                case measure => omega
                case rel => exact ⟨1, by first | rfl | go_num, by omega, hn, hM, hB⟩
              | succ q =>
                have hri := rise_lt on'.out.rise (i := q) (j := q + 1) (by omega) hlt
                obtain ⟨ak2, hA3, hcq⟩ := hn.out.at_.key q (by omega)
                obtain rfl : ak = ak2 := Option.some.inj hA3
                clear hA3
                generalize n.keys.getD (q + 1) 0 = kv at *
                generalize n.vals.getD (q + 1) ⟨#[]⟩ = vv at *
                generalize n.keys.getD q 0 = ku at *
                have e5 := hid (show wrap64 ((q : Int) + 1 + 1) = ((q + 1 + 1 : Nat) : Int) by have := n1.out; rw [wr64 _ (by omega) (by omega)]; omega)
                have e1 := wr_b q (by have := n1.out; omega)
                have e2 := wr_c q (by have := n1.out; omega)
                have g0 : (0 : Int) < (q : Int) + 1 := by omega
                have g3 : (q : Int) < (n.keys.length : Int) := by omega
                have gA : (0 : Int) ≤ (q : Int) + 1 := by omega
                have g4 : (q : Int) + 1 < (n.keys.length : Int) := by omega
                have g8 : (q : Int) + 1 < (n.vals.length : Int) := by omega
                have g7 : ¬ (kv ≤ ku) := by omega
                have ad1 : ∀ ad : Addr, ad.add (q + 1) = ⟨ad.block, ad.off + (q + 1), none⟩ := fun ad => by simp [Addr.add]
                rw [ad1] at hck hcv
                clear ad1
                refine start_ (n := 31) (S := fun w' => Below wr.heap.size wr w') (ds := []) #[false, false, false, false, false, false, false, false, false, false, false, false, false, false, false, false, false, false, false, false, false, false, false, false, false, false, false, false, false, false, false] (by kernel_rfl) rfl rfl (below_drew (Below.refl _ _)) (fun hHeld => ?_)
                refine pure_ (i := 0) (N := some 76) (v := ?_) (a' := ?_) #[true, false, false, false, false, false, false, false, false, false, false, false, false, false, false, false, false, false, false, false, false, false, false, false, false, false, false, false, false, false, false] rfl rfl (by kernel_rfl) (fun _ _ _ h => h) (Or.inl ⟨by rfl, ?_⟩) ?_ ?_
                rotate_left
                · intro w'
                  go_simp
                  with_reducible rfl
                rotate_left
                · simp only [Act.put, List.setIfInBounds_toArray, List.set_cons_zero, List.set_cons_succ, i64_w, i32_w]
                  rfl
                refine pure_ (i := 1) (N := some 77) (v := ?_) (a' := ?_) #[true, true, false, false, false, false, false, false, false, false, false, false, false, false, false, false, false, false, false, false, false, false, false, false, false, false, false, false, false, false, false] rfl rfl (by kernel_rfl) (fun _ _ _ h => h) (Or.inl ⟨by rfl, ?_⟩) ?_ ?_
                rotate_left
                · intro w'
                  go_simp
                  with_reducible rfl
                rotate_left
                · simp only [Act.put, List.setIfInBounds_toArray, List.set_cons_zero, List.set_cons_succ, i64_w, i32_w]
                  rfl
                refine pure_ (i := 2) (N := some 78) (v := ?_) (a' := ?_) #[true, true, true, false, false, false, false, false, false, false, false, false, false, false, false, false, false, false, false, false, false, false, false, false, false, false, false, false, false, false, false] rfl rfl (by kernel_rfl) (fun _ _ _ h => h) (Or.inl ⟨by rfl, ?_⟩) ?_ ?_
                rotate_left
                · intro w'
                  go_simp
                  with_reducible rfl
                rotate_left
                · simp only [Act.put, List.setIfInBounds_toArray, List.set_cons_zero, List.set_cons_succ, i64_w, i32_w]
                  rfl
                refine pure_ (i := 3) (N := some 79) (v := ?_) (a' := ?_) #[true, true, true, true, false, false, false, false, false, false, false, false, false, false, false, false, false, false, false, false, false, false, false, false, false, false, false, false, false, false, false] rfl rfl (by kernel_rfl) (fun _ _ _ h => h) (Or.inl ⟨by rfl, ?_⟩) ?_ ?_
                rotate_left
                · intro w'
                  go_simp
                  with_reducible rfl
                rotate_left
                · simp only [Act.put, List.setIfInBounds_toArray, List.set_cons_zero, List.set_cons_succ, i64_w, i32_w]
                  rfl
                refine take_ (i := 4) (N := some 80) (v := ?_) (a' := ?_) #[true, true, true, true, true, false, false, false, false, false, false, false, false, false, false, false, false, false, false, false, false, false, false, false, false, false, false, false, false, false, false] rfl rfl (by kernel_rfl) (fun _ _ _ h => h) (Or.inl ⟨by rfl, ?_⟩) hHeld ?_ ?_
                rotate_left
                · rintro w' hb'
                  have dd := pw_cell_below hb' d1
                  go_simp
                  with_reducible rfl
                rotate_left
                · simp only [Act.put, List.setIfInBounds_toArray, List.set_cons_zero, List.set_cons_succ, i64_w, i32_w]
                  rfl
                refine pure_ (i := 5) (N := some 81) (v := ?_) (a' := ?_) #[true, true, true, true, true, true, false, false, false, false, false, false, false, false, false, false, false, false, false, false, false, false, false, false, false, false, false, false, false, false, false] rfl rfl (by kernel_rfl) (fun _ _ _ h => h) (Or.inl ⟨by rfl, ?_⟩) ?_ ?_
                rotate_left
                · intro w'
                  go_simp
                  with_reducible rfl
                rotate_left
                · simp only [Act.put, List.setIfInBounds_toArray, List.set_cons_zero, List.set_cons_succ, i64_w, i32_w]
                  rfl
                refine pure_ (i := 6) (N := some 82) (v := ?_) (a' := ?_) #[true, true, true, true, true, true, true, false, false, false, false, false, false, false, false, false, false, false, false, false, false, false, false, false, false, false, false, false, false, false, false] rfl rfl (by kernel_rfl) (fun _ _ _ h => h) (Or.inl ⟨by rfl, ?_⟩) ?_ ?_
                rotate_left
                · intro w'
                  go_simp
                  with_reducible rfl
                rotate_left
                · simp only [Act.put, List.setIfInBounds_toArray, List.set_cons_zero, List.set_cons_succ, i64_w, i32_w]
                  rfl
                refine pure_ (i := 7) (N := some 83) (v := ?_) (a' := ?_) #[true, true, true, true, true, true, true, true, false, false, false, false, false, false, false, false, false, false, false, false, false, false, false, false, false, false, false, false, false, false, false] rfl rfl (by kernel_rfl) (fun _ _ _ h => h) (Or.inl ⟨by rfl, ?_⟩) ?_ ?_
                rotate_left
                · intro w'
                  go_simp
                  with_reducible rfl
                rotate_left
                · simp only [Act.put, List.setIfInBounds_toArray, List.set_cons_zero, List.set_cons_succ, i64_w, i32_w]
                  rfl
                refine take_ (i := 8) (N := some 84) (v := ?_) (a' := ?_) #[true, true, true, true, true, true, true, true, true, false, false, false, false, false, false, false, false, false, false, false, false, false, false, false, false, false, false, false, false, false, false] rfl rfl (by kernel_rfl) (fun _ _ _ h => h) (Or.inl ⟨by rfl, ?_⟩) hHeld ?_ ?_
                rotate_left
                · rintro w' hb'
                  have dd := pw_cell_below hb' hcq
                  go_simp
                  with_reducible rfl
                rotate_left
                · simp only [Act.put, List.setIfInBounds_toArray, List.set_cons_zero, List.set_cons_succ, i64_w, i32_w]
                  rfl
                refine pure_ (i := 9) (N := some 85) (v := ?_) (a' := ?_) #[true, true, true, true, true, true, true, true, true, true, false, false, false, false, false, false, false, false, false, false, false, false, false, false, false, false, false, false, false, false, false] rfl rfl (by kernel_rfl) (fun _ _ _ h => h) (Or.inl ⟨by rfl, ?_⟩) ?_ ?_
                rotate_left
                · intro w'
                  go_simp
                  with_reducible rfl
                rotate_left
                · simp only [Act.put, List.setIfInBounds_toArray, List.set_cons_zero, List.set_cons_succ, i64_w, i32_w]
                  rfl
                refine take_ (i := 10) (N := some 86) (v := ?_) (a' := ?_) #[true, true, true, true, true, true, true, true, true, true, true, false, false, false, false, false, false, false, false, false, false, false, false, false, false, false, false, false, false, false, false] rfl rfl (by kernel_rfl) (fun _ _ _ h => h) (Or.inl ⟨by rfl, ?_⟩) hHeld ?_ ?_
                rotate_left
                · rintro w' hb'
                  have dd := pw_cell_below hb' d1
                  go_simp
                  with_reducible rfl
                rotate_left
                · simp only [Act.put, List.setIfInBounds_toArray, List.set_cons_zero, List.set_cons_succ, i64_w, i32_w]
                  rfl
                refine pure_ (i := 11) (N := some 87) (v := ?_) (a' := ?_) #[true, true, true, true, true, true, true, true, true, true, true, true, false, false, false, false, false, false, false, false, false, false, false, false, false, false, false, false, false, false, false] rfl rfl (by kernel_rfl) (fun _ _ _ h => h) (Or.inl ⟨by rfl, ?_⟩) ?_ ?_
                rotate_left
                · intro w'
                  go_simp
                  with_reducible rfl
                rotate_left
                · simp only [Act.put, List.setIfInBounds_toArray, List.set_cons_zero, List.set_cons_succ, i64_w, i32_w]
                  rfl
                refine pure_ (i := 12) (N := some 88) (v := ?_) (a' := ?_) #[true, true, true, true, true, true, true, true, true, true, true, true, true, false, false, false, false, false, false, false, false, false, false, false, false, false, false, false, false, false, false] rfl rfl (by kernel_rfl) (fun _ _ _ h => h) (Or.inl ⟨by rfl, ?_⟩) ?_ ?_
                rotate_left
                · intro w'
                  go_simp
                  with_reducible rfl
                rotate_left
                · simp only [Act.put, List.setIfInBounds_toArray, List.set_cons_zero, List.set_cons_succ, i64_w, i32_w]
                  rfl
                refine take_ (i := 13) (N := some 89) (v := ?_) (a' := ?_) #[true, true, true, true, true, true, true, true, true, true, true, true, true, true, false, false, false, false, false, false, false, false, false, false, false, false, false, false, false, false, false] rfl rfl (by kernel_rfl) (fun _ _ _ h => h) (Or.inl ⟨by rfl, ?_⟩) hHeld ?_ ?_
                rotate_left
                · rintro w' hb'
                  have dd := pw_cell_below hb' hck
                  go_simp
                  with_reducible rfl
                rotate_left
                · simp only [Act.put, List.setIfInBounds_toArray, List.set_cons_zero, List.set_cons_succ, i64_w, i32_w]
                  rfl
                refine pure_ (i := 14) (N := some 90) (v := ?_) (a' := ?_) #[true, true, true, true, true, true, true, true, true, true, true, true, true, true, true, false, false, false, false, false, false, false, false, false, false, false, false, false, false, false, false] rfl rfl (by kernel_rfl) (fun _ _ _ h => h) (Or.inl ⟨by rfl, ?_⟩) ?_ ?_
                rotate_left
                · intro w'
                  go_simp
                  with_reducible rfl
                rotate_left
                · simp only [Act.put, List.setIfInBounds_toArray, List.set_cons_zero, List.set_cons_succ, i64_w, i32_w]
                  rfl
                refine pure_ (i := 15) (N := some 91) (v := ?_) (a' := ?_) #[true, true, true, true, true, true, true, true, true, true, true, true, true, true, true, true, false, false, false, false, false, false, false, false, false, false, false, false, false, false, false] rfl rfl (by kernel_rfl) (fun _ _ _ h => h) (Or.inl ⟨by rfl, ?_⟩) ?_ ?_
                rotate_left
                · intro w'
                  go_simp
                  with_reducible rfl
                rotate_left
                · simp only [Act.put, List.setIfInBounds_toArray, List.set_cons_zero, List.set_cons_succ, i64_w, i32_w]
                  rfl
                refine pure_ (i := 16) (N := some 92) (v := ?_) (a' := ?_) #[true, true, true, true, true, true, true, true, true, true, true, true, true, true, true, true, true, false, false, false, false, false, false, false, false, false, false, false, false, false, false] rfl rfl (by kernel_rfl) (fun _ _ _ h => h) (Or.inl ⟨by rfl, ?_⟩) ?_ ?_
                rotate_left
                · intro w'
                  go_simp
                  with_reducible rfl
                rotate_left
                · simp only [Act.put, List.setIfInBounds_toArray, List.set_cons_zero, List.set_cons_succ, i64_w, i32_w]
                  rfl
                refine pure_ (i := 17) (N := some 93) (v := ?_) (a' := ?_) #[true, true, true, true, true, true, true, true, true, true, true, true, true, true, true, true, true, true, false, false, false, false, false, false, false, false, false, false, false, false, false] rfl rfl (by kernel_rfl) (fun _ _ _ h => h) (Or.inl ⟨by rfl, ?_⟩) ?_ ?_
                rotate_left
                · intro w'
                  go_simp
                  with_reducible rfl
                rotate_left
                · simp only [Act.put, List.setIfInBounds_toArray, List.set_cons_zero, List.set_cons_succ, i64_w, i32_w]
                  rfl
                refine pure_ (i := 18) (N := some 94) (v := ?_) (a' := ?_) #[true, true, true, true, true, true, true, true, true, true, true, true, true, true, true, true, true, true, true, false, false, false, false, false, false, false, false, false, false, false, false] rfl rfl (by kernel_rfl) (fun _ _ _ h => h) (Or.inl ⟨by rfl, ?_⟩) ?_ ?_
                rotate_left
                · intro w'
                  go_simp
                  with_reducible rfl
                rotate_left
                · simp only [Act.put, List.setIfInBounds_toArray, List.set_cons_zero, List.set_cons_succ, i64_w, i32_w]
                  rfl
                refine take_ (i := 19) (N := some 95) (v := ?_) (a' := ?_) #[true, true, true, true, true, true, true, true, true, true, true, true, true, true, true, true, true, true, true, true, false, false, false, false, false, false, false, false, false, false, false] rfl rfl (by kernel_rfl) (fun _ _ _ h => h) (Or.inl ⟨by rfl, ?_⟩) hHeld ?_ ?_
                rotate_left
                · rintro w' hb'
                  have dd := pw_cell_below hb' d1
                  go_simp
                  with_reducible rfl
                rotate_left
                · simp only [Act.put, List.setIfInBounds_toArray, List.set_cons_zero, List.set_cons_succ, i64_w, i32_w]
                  rfl
                refine pure_ (i := 20) (N := some 96) (v := ?_) (a' := ?_) #[true, true, true, true, true, true, true, true, true, true, true, true, true, true, true, true, true, true, true, true, true, false, false, false, false, false, false, false, false, false, false] rfl rfl (by kernel_rfl) (fun _ _ _ h => h) (Or.inl ⟨by rfl, ?_⟩) ?_ ?_
                rotate_left
                · intro w'
                  go_simp
                  with_reducible rfl
                rotate_left
                · simp only [Act.put, List.setIfInBounds_toArray, List.set_cons_zero, List.set_cons_succ, i64_w, i32_w]
                  rfl
                refine pure_ (i := 21) (N := some 97) (v := ?_) (a' := ?_) #[true, true, true, true, true, true, true, true, true, true, true, true, true, true, true, true, true, true, true, true, true, true, false, false, false, false, false, false, false, false, false] rfl rfl (by kernel_rfl) (fun _ _ _ h => h) (Or.inl ⟨by rfl, ?_⟩) ?_ ?_
                rotate_left
                · intro w'
                  go_simp
                  with_reducible rfl
                rotate_left
                · simp only [Act.put, List.setIfInBounds_toArray, List.set_cons_zero, List.set_cons_succ, i64_w, i32_w]
                  rfl
                refine take_ (i := 22) (N := some 98) (v := ?_) (a' := ?_) #[true, true, true, true, true, true, true, true, true, true, true, true, true, true, true, true, true, true, true, true, true, true, true, false, false, false, false, false, false, false, false] rfl rfl (by kernel_rfl) (fun _ _ _ h => h) (Or.inl ⟨by rfl, ?_⟩) hHeld ?_ ?_
                rotate_left
                · rintro w' hb'
                  have dd := pw_cell_below hb' hck
                  go_simp
                  with_reducible rfl
                rotate_left
                · simp only [Act.put, List.setIfInBounds_toArray, List.set_cons_zero, List.set_cons_succ, i64_w, i32_w]
                  rfl
                refine take_ (i := 23) (N := some 99) (v := .string vv) (a' := ?_) #[true, true, true, true, true, true, true, true, true, true, true, true, true, true, true, true, true, true, true, true, true, true, true, true, false, false, false, false, false, false, false] rfl rfl (by kernel_rfl) (fun _ _ _ h => h) (Or.inl ⟨by rfl, ?_⟩) hHeld ?_ ?_
                · rintro w' hb'
                  exact maplook_ (mv := .map (some gm)) (key := .int .u64 kv) rfl (by rfl) (by rfl) (hlk.out w' hb')
                rotate_left
                · simp only [Act.put, List.setIfInBounds_toArray, List.set_cons_zero, List.set_cons_succ, i64_w, i32_w]
                  rfl
                refine pure_ (i := 24) (N := some 100) (v := ?_) (a' := ?_) #[true, true, true, true, true, true, true, true, true, true, true, true, true, true, true, true, true, true, true, true, true, true, true, true, true, false, false, false, false, false, false] rfl rfl (by kernel_rfl) (fun _ _ _ h => h) (Or.inl ⟨by rfl, ?_⟩) ?_ ?_
                rotate_left
                · intro w'
                  go_simp
                  with_reducible rfl
                rotate_left
                · simp only [Act.put, List.setIfInBounds_toArray, List.set_cons_zero, List.set_cons_succ, i64_w, i32_w]
                  rfl
                refine take_ (i := 25) (N := some 101) (v := ?_) (a' := ?_) #[true, true, true, true, true, true, true, true, true, true, true, true, true, true, true, true, true, true, true, true, true, true, true, true, true, true, false, false, false, false, false] rfl rfl (by kernel_rfl) (fun _ _ _ h => h) (Or.inl ⟨by rfl, ?_⟩) hHeld ?_ ?_
                rotate_left
                · rintro w' hb'
                  have dd := pw_cell_below hb' d2
                  go_simp
                  with_reducible rfl
                rotate_left
                · simp only [Act.put, List.setIfInBounds_toArray, List.set_cons_zero, List.set_cons_succ, i64_w, i32_w]
                  rfl
                refine pure_ (i := 26) (N := some 102) (v := ?_) (a' := ?_) #[true, true, true, true, true, true, true, true, true, true, true, true, true, true, true, true, true, true, true, true, true, true, true, true, true, true, true, false, false, false, false] rfl rfl (by kernel_rfl) (fun _ _ _ h => h) (Or.inl ⟨by rfl, ?_⟩) ?_ ?_
                rotate_left
                · intro w'
                  go_simp
                  with_reducible rfl
                rotate_left
                · simp only [Act.put, List.setIfInBounds_toArray, List.set_cons_zero, List.set_cons_succ, i64_w, i32_w]
                  rfl
                refine pure_ (i := 27) (N := some 103) (v := ?_) (a' := ?_) #[true, true, true, true, true, true, true, true, true, true, true, true, true, true, true, true, true, true, true, true, true, true, true, true, true, true, true, true, false, false, false] rfl rfl (by kernel_rfl) (fun _ _ _ h => h) (Or.inl ⟨by rfl, ?_⟩) ?_ ?_
                rotate_left
                · intro w'
                  go_simp
                  with_reducible rfl
                rotate_left
                · simp only [Act.put, List.setIfInBounds_toArray, List.set_cons_zero, List.set_cons_succ, i64_w, i32_w]
                  rfl
                refine take_ (i := 28) (N := some 104) (v := ?_) (a' := ?_) #[true, true, true, true, true, true, true, true, true, true, true, true, true, true, true, true, true, true, true, true, true, true, true, true, true, true, true, true, true, false, false] rfl rfl (by kernel_rfl) (fun _ _ _ h => h) (Or.inl ⟨by rfl, ?_⟩) hHeld ?_ ?_
                rotate_left
                · rintro w' hb'
                  have dd := pw_cell_below hb' hcv
                  go_simp
                  with_reducible rfl
                rotate_left
                · simp only [Act.put, List.setIfInBounds_toArray, List.set_cons_zero, List.set_cons_succ, i64_w, i32_w]
                  rfl
                refine pure_ (i := 29) (N := some 105) (v := ?_) (a' := ?_) #[true, true, true, true, true, true, true, true, true, true, true, true, true, true, true, true, true, true, true, true, true, true, true, true, true, true, true, true, true, true, false] rfl rfl (by kernel_rfl) (fun _ _ _ h => h) (Or.inl ⟨by rfl, ?_⟩) ?_ ?_
                rotate_left
                · intro w'
                  go_simp
                  with_reducible rfl
                rotate_left
                · simp only [Act.put, List.setIfInBounds_toArray, List.set_cons_zero, List.set_cons_succ, i64_w, i32_w]
                  rfl
                refine pure_ (i := 30) (N := some 106) (v := ?_) (a' := ?_) #[true, true, true, true, true, true, true, true, true, true, true, true, true, true, true, true, true, true, true, true, true, true, true, true, true, true, true, true, true, true, true] rfl rfl (by kernel_rfl) (fun _ _ _ h => h) (Or.inl ⟨by rfl, ?_⟩) ?_ ?_
                rotate_left
                · intro w'
                  go_simp
                  with_reducible rfl
                rotate_left
                · simp only [Act.put, List.setIfInBounds_toArray, List.set_cons_zero, List.set_cons_succ, i64_w, i32_w]
                  rfl
                refine done_ (by kernel_rfl) ?_
                replace hn := hid (hn.out.below (below_drew (Below.refl _ _)))
                replace hM := hid (hM.out.below (below_drew (Below.refl _ _)))
                replace hB := hid (below_drew hB.out)
                clear hHeld hlk hck hcv hcq a2 g7 hri d0 d1 d2 d3
                go_wp2_with fail
                go_roundg g
                case measure => omega
                case rel => exact ⟨q + 1 + 1, by rw [e5.out], by clear e1 e2; omega, hn, hM, hB⟩
          · have a1 : ¬ ((k : Int) < (n.keys.length : Int)) := by omega
            have d0 : wr.cell? ⟨gn, 0, none⟩ = some (.bool n.leaf) := (blk_cell hn.out.box 0).trans rfl
            have d1 : wr.cell? ⟨gn, 1, none⟩ = some (.slice A1 n.keys.length Ac1) := (blk_cell hn.out.box 1).trans rfl
            have d2 : wr.cell? ⟨gn, 2, none⟩ = some (.slice A2 n.vals.length Ac2) := (blk_cell hn.out.box 2).trans rfl
            have d3 : wr.cell? ⟨gn, 3, none⟩ = some (.slice A3 n.kids.length Ac3) := (blk_cell hn.out.box 3).trans rfl
            go_upto_region 17 with fail
            clear a1 hk hlt
            go_upto_region 18 with (first | ((with_reducible refine Calls.mono (HF.out _ _ hn.out.at_) ?_); rintro r w6 ⟨rfl, hbb⟩; replace hn := hid (hn.out.below hbb); replace hB := hid (below_then hB.out hB.out.size hbb); replace hM := hid (hM.out.below hbb); clear hbb))
            clear HF d0 d1 d2 d3
            go_upto_region 19 with (first | (refine wpList_lookN rfl _ _ rfl gm _ n rfl hM.out key rfl hkey'.out ?_))
            generalize place n.keys key = q at *
            generalize isAt n.keys key = t at *
            clear hM hkey' hall
            have d0 : w6.cell? ⟨gn, 0, none⟩ = some (.bool n.leaf) := (blk_cell hn.out.box 0).trans rfl
            have d1 : w6.cell? ⟨gn, 1, none⟩ = some (.slice A1 n.keys.length Ac1) := (blk_cell hn.out.box 1).trans rfl
            have d2 : w6.cell? ⟨gn, 2, none⟩ = some (.slice A2 n.vals.length Ac2) := (blk_cell hn.out.box 2).trans rfl
            have d3 : w6.cell? ⟨gn, 3, none⟩ = some (.slice A3 n.kids.length Ac3) := (blk_cell hn.out.box 3).trans rfl
            go_cut [144] (fun s144 wx => s144 = .bool false ∧ w6 = wx)
            case first =>
              cases t with
              | false =>
                have g1 : ¬ ((n.keys.length : Int) < (q : Int)) := by have := z6.out; omega
                have g2 : ¬ ((q : Int) < 0) := by omega
                go_wp2_with fail
                go_meet
                exact ⟨rfl, rfl⟩
              | true =>
                have g1 : ¬ ((n.keys.length : Int) < (q : Int)) := by have := z6.out; omega
                have g2 : ¬ ((q : Int) < 0) := by omega
                have g3 : (q : Int) < (n.keys.length : Int) := by have := (z5.out rfl).1; omega
                obtain ⟨ak, hA1, hck⟩ := hn.out.at_.key q (by omega)
                subst hA1
                rw [(z5.out rfl).2] at hck
                go_wp2_with fail
                go_meet
                exact ⟨rfl, rfl⟩
            case rest =>
              obtain ⟨rfl, rfl⟩ := hcut
              clear z5 z6
              by_cases h0 : n.keys.length = 0
              · have g1 : (n.keys.length : Int) = 0 := by omega
                go_wp2_with fail
                go_ret
                exact ⟨rfl, hB.out⟩
              · have g1 : ¬ ((n.keys.length : Int) = 0) := by omega
                go_upto_if 151 with fail
                clear g1
                obtain ⟨o1, ho1⟩ : ∃ o1 : Nat, (if out < 0 then -(out + 1) else out) = (o1 : Int) := ⟨(if out < 0 then -(out + 1) else out).toNat, by split <;> omega⟩
                go_cut [2] (fun s2 wx => s2 = .int .i64 (o1 : Int) ∧ w6 = wx)
                case first =>
                  by_cases hneg : out < 0
                  · rw [if_pos hneg] at ho1
                    have hb0 := hbo.out
                    have e1 : wrap64 (out + 1) = out + 1 := wr64 _ (by omega) (by omega)
                    have e2 := hid (show wrap64 (-(out + 1)) = (o1 : Int) by rw [wr64 _ (by omega) (by omega)]; exact ho1)
                    clear ho1 hb0
                    go_wp2_with fail
                    go_meet
                    exact ⟨by rw [e2.out], rfl⟩
                  · rw [if_neg hneg] at ho1
                    subst ho1
                    go_wp2_with fail
                    go_meet
                    exact ⟨rfl, rfl⟩
                case rest =>
                  obtain ⟨rfl, rfl⟩ := hcut
                  clear ho1 hbo
                  have g1 : ¬ ((n.keys.length : Int) = 0) := by omega
                  go_upto_region 26 with fail
                  clear g1
                  obtain ⟨i, hi⟩ : ∃ i : Nat, i = o1 % n.keys.length := ⟨_, rfl⟩
                  have hil : i < n.keys.length := by rw [hi]; exact Nat.mod_lt _ (by omega)
                  rw [show ((o1 : Int) % (n.keys.length : Int)) = (i : Int) from by rw [hi]; rfl]
                  clear hi h0
                  have htk := taken on'.out hil
                  have HW2 := HW.out (i : Int)
                  generalize withoutF n (i : Int) = m at *
                  replace HW2 := hid HW2
                  clear HW
                  have m1 := htk.ok.few
                  have m2 := htk.ok.same
                  have m3 := hid htk.len
                  have HF2 := hid (fun u W (h : At W u m) => find_walk m u (n.keys.getD i 0) W h (by omega))
                  rw [show findF m (n.keys.getD i 0) = (((A.place m.keys (n.keys.getD i 0) : Nat) : Int), isAt m.keys (n.keys.getD i 0)) from if_pos htk.ok.leaf, htk.gone] at HF2
                  have HP2 := hid (fun u W (h : At W u m) => put_walk m u (n.keys.getD i 0) (n.vals.getD i ⟨#[]⟩) W h (by omega) (by omega))
                  rw [htk.back] at HP2
                  clear m1 m2 htk
                  go_upto_region 27 with (first | ((with_reducible refine Calls.mono (HW2.out _ _ hn.out.at_) ?_); rintro r w7 ⟨v0, rfl, q0, hbb⟩; obtain ⟨B1, Bc1, B2, Bc2, B3, Bc3, rfl, q1, q2, q3⟩ := q0; have hm := hid (Boxed.new (show At w7 (.agg #[.bool m.leaf, .slice B1 m.keys.length Bc1, .slice B2 m.vals.length Bc2, .slice B3 m.kids.length Bc3]) m from ⟨B1, Bc1, B2, Bc2, B3, Bc3, rfl, q1, q2, q3⟩)); clear q1 q2 q3; replace hn := hid (hn.out.below hbb); replace hB := hid (below_then hB.out hB.out.size hbb); skip; replace hn := hid (hn.out.below (below_alloc (Below.refl _ w7) (.cells #[.bool m.leaf, .slice B1 m.keys.length Bc1, .slice B2 m.vals.length Bc2, .slice B3 m.kids.length Bc3] 29))); replace hB := hid (below_alloc hB.out (.cells #[.bool m.leaf, .slice B1 m.keys.length Bc1, .slice B2 m.vals.length Bc2, .slice B3 m.kids.length Bc3] 29)); clear hbb))
                  change Code.wp _ _ _ _ (w7.alloc (.cells #[.bool m.leaf, .slice B1 m.keys.length Bc1, .slice B2 m.vals.length Bc2, .slice B3 m.kids.length Bc3] 29))
                  generalize w7.alloc (.cells #[.bool m.leaf, .slice B1 m.keys.length Bc1, .slice B2 m.vals.length Bc2, .slice B3 m.kids.length Bc3] 29) = w9 at *
                  have lhm := hid hm.out.lt
                  generalize w7.heap.size = gm at *
                  clear HW2 d0 d1 d2 d3
                  obtain ⟨ak, hA1, hck⟩ := hn.out.at_.key i hil
                  subst hA1
                  obtain ⟨av, hA2, hcv⟩ := hn.out.at_.val i (by have := n2.out; omega)
                  subst hA2
                  have g1 : (i : Int) < (n.keys.length : Int) := by omega
                  have g2 : (i : Int) < (n.vals.length : Int) := by have := n2.out; omega
                  generalize n.keys.getD i 0 = ki at *
                  generalize n.vals.getD i ⟨#[]⟩ = vi at *
                  generalize A.place m.keys ki = pi at *
                  have d0 : w9.cell? ⟨gn, 0, none⟩ = some (.bool n.leaf) := (blk_cell hn.out.box 0).trans rfl
                  have d1 : w9.cell? ⟨gn, 1, none⟩ = some (.slice (some ak) n.keys.length Ac1) := (blk_cell hn.out.box 1).trans rfl
                  have d2 : w9.cell? ⟨gn, 2, none⟩ = some (.slice (some av) n.vals.length Ac2) := (blk_cell hn.out.box 2).trans rfl
                  have d3 : w9.cell? ⟨gn, 3, none⟩ = some (.slice A3 n.kids.length Ac3) := (blk_cell hn.out.box 3).trans rfl
                  have f0 : w9.cell? ⟨gm, 0, none⟩ = some (.bool m.leaf) := (blk_cell hm.out.box 0).trans rfl
                  have f1 : w9.cell? ⟨gm, 1, none⟩ = some (.slice B1 m.keys.length Bc1) := (blk_cell hm.out.box 1).trans rfl
                  have f2 : w9.cell? ⟨gm, 2, none⟩ = some (.slice B2 m.vals.length Bc2) := (blk_cell hm.out.box 2).trans rfl
                  have f3 : w9.cell? ⟨gm, 3, none⟩ = some (.slice B3 m.kids.length Bc3) := (blk_cell hm.out.box 3).trans rfl
                  refine start_ (n := 12) (S := fun w' => Below w9.heap.size w9 w') (ds := []) #[false, false, false, false, false, false, false, false, false, false, false, false] (by kernel_rfl) rfl rfl (below_drew (Below.refl _ _)) (fun hHeld => ?_)
                  refine take_ (i := 0) (N := some 164) (v := ?_) (a' := ?_) #[true, false, false, false, false, false, false, false, false, false, false, false] rfl rfl (by kernel_rfl) (fun _ _ _ h => h) (Or.inl ⟨by rfl, ?_⟩) hHeld ?_ ?_
                  rotate_left
                  · rintro w' hb'
                    have dd0 := pw_cell_below hb' f0
                    have dd1 := pw_cell_below hb' f1
                    have dd2 := pw_cell_below hb' f2
                    have dd3 := pw_cell_below hb' f3
                    go_simp
                    with_reducible rfl
                  rotate_left
                  · simp only [Act.put, List.setIfInBounds_toArray, List.set_cons_zero, List.set_cons_succ, i64_w, i32_w]
                    rfl
                  refine pure_ (i := 1) (N := some 165) (v := ?_) (a' := ?_) #[true, true, false, false, false, false, false, false, false, false, false, false] rfl rfl (by kernel_rfl) (fun _ _ _ h => h) (Or.inl ⟨by rfl, ?_⟩) ?_ ?_
                  rotate_left
                  · intro w'
                    go_simp
                    with_reducible rfl
                  rotate_left
                  · simp only [Act.put, List.setIfInBounds_toArray, List.set_cons_zero, List.set_cons_succ, i64_w, i32_w]
                    rfl
                  refine take_ (i := 2) (N := some 166) (v := ?_) (a' := ?_) #[true, true, true, false, false, false, false, false, false, false, false, false] rfl rfl (by kernel_rfl) (fun _ _ _ h => h) (Or.inl ⟨by rfl, ?_⟩) hHeld ?_ ?_
                  rotate_left
                  · rintro w' hb'
                    have dd := pw_cell_below hb' d1
                    go_simp
                    with_reducible rfl
                  rotate_left
                  · simp only [Act.put, List.setIfInBounds_toArray, List.set_cons_zero, List.set_cons_succ, i64_w, i32_w]
                    rfl
                  refine pure_ (i := 3) (N := some 167) (v := ?_) (a' := ?_) #[true, true, true, true, false, false, false, false, false, false, false, false] rfl rfl (by kernel_rfl) (fun _ _ _ h => h) (Or.inl ⟨by rfl, ?_⟩) ?_ ?_
                  rotate_left
                  · intro w'
                    go_simp
                    with_reducible rfl
                  rotate_left
                  · simp only [Act.put, List.setIfInBounds_toArray, List.set_cons_zero, List.set_cons_succ, i64_w, i32_w]
                    rfl
                  refine pure_ (i := 4) (N := some 168) (v := ?_) (a' := ?_) #[true, true, true, true, true, false, false, false, false, false, false, false] rfl rfl (by kernel_rfl) (fun _ _ _ h => h) (Or.inl ⟨by rfl, ?_⟩) ?_ ?_
                  rotate_left
                  · intro w'
                    go_simp
                    with_reducible rfl
                  rotate_left
                  · simp only [Act.put, List.setIfInBounds_toArray, List.set_cons_zero, List.set_cons_succ, i64_w, i32_w]
                    rfl
                  refine take_ (i := 5) (N := some 169) (v := ?_) (a' := ?_) #[true, true, true, true, true, true, false, false, false, false, false, false] rfl rfl (by kernel_rfl) (fun _ _ _ h => h) (Or.inl ⟨by rfl, ?_⟩) hHeld ?_ ?_
                  rotate_left
                  · rintro w' hb'
                    have dd := pw_cell_below hb' hck
                    go_simp
                    with_reducible rfl
                  rotate_left
                  · simp only [Act.put, List.setIfInBounds_toArray, List.set_cons_zero, List.set_cons_succ, i64_w, i32_w]
                    rfl
                  refine one_ (i := 6) (N := some 170) #[true, true, true, true, true, true, true, false, false, false, false, false] rfl rfl (by kernel_rfl) (by decide) (fun K hK => ?_)
                  refine goes_ Try.func12 (by kernel_rfl) rfl #[(.agg #[.bool m.leaf, .slice B1 m.keys.length Bc1, .slice B2 m.vals.length Bc2, .slice B3 m.kids.length Bc3]), .int .u64 ki] (by rfl) rfl rfl (by (try simp only [List.map_toArray, List.map_cons, List.map_nil]); first | done | rfl) ?_
                  refine (HF2.out _ _ (hm.out.below (below_drew (Below.refl _ _))).at_).mono ?_
                  rintro r y1 ⟨rfl, qz⟩
                  have sy1 := below_then (below_drew (Below.refl _ _)) (Nat.le_refl _) qz
                  clear qz
                  refine ⟨_, rfl, ?_⟩
                  refine hK.out _ _ sy1 (fun hHeld => ?_)
                  clear hK K
                  refine norm_ (a' := ?_) ?_ ?_
                  rotate_left
                  · show Act.put _ (some 170) _ = _
                    simp only [Act.put, List.setIfInBounds_toArray, List.set_cons_zero, List.set_cons_succ, i64_w, i32_w]
                    rfl
                  refine pure_ (i := 7) (N := some 163) (v := ?_) (a' := ?_) #[true, true, true, true, true, true, true, true, false, false, false, false] rfl rfl (by kernel_rfl) (fun _ _ _ h => h) (Or.inl ⟨by rfl, ?_⟩) ?_ ?_
                  rotate_left
                  · intro w'
                    go_simp
                    with_reducible rfl
                  rotate_left
                  · simp only [Act.put, List.setIfInBounds_toArray, List.set_cons_zero, List.set_cons_succ, i64_w, i32_w]
                    rfl
                  refine pure_ (i := 8) (N := some 171) (v := ?_) (a' := ?_) #[true, true, true, true, true, true, true, true, true, false, false, false] rfl rfl (by kernel_rfl) (fun _ _ _ h => h) (Or.inl ⟨by rfl, ?_⟩) ?_ ?_
                  rotate_left
                  · intro w'
                    go_simp
                    with_reducible rfl
                  rotate_left
                  · simp only [Act.put, List.setIfInBounds_toArray, List.set_cons_zero, List.set_cons_succ, i64_w, i32_w]
                    rfl
                  refine pure_ (i := 9) (N := some 172) (v := ?_) (a' := ?_) #[true, true, true, true, true, true, true, true, true, true, false, false] rfl rfl (by kernel_rfl) (fun _ _ _ h => h) (Or.inl ⟨by rfl, ?_⟩) ?_ ?_
                  rotate_left
                  · intro w'
                    go_simp
                    with_reducible rfl
                  rotate_left
                  · simp only [Act.put, List.setIfInBounds_toArray, List.set_cons_zero, List.set_cons_succ, i64_w, i32_w]
                    rfl
                  refine pure_ (i := 10) (N := some 17) (v := ?_) (a' := ?_) #[true, true, true, true, true, true, true, true, true, true, true, false] rfl rfl (by kernel_rfl) (fun _ _ _ h => h) (Or.inl ⟨by rfl, ?_⟩) ?_ ?_
                  rotate_left
                  · intro w'
                    go_simp
                    with_reducible rfl
                  rotate_left
                  · simp only [Act.put, List.setIfInBounds_toArray, List.set_cons_zero, List.set_cons_succ, i64_w, i32_w]
                    rfl
                  refine pure_ (i := 11) (N := some 18) (v := ?_) (a' := ?_) #[true, true, true, true, true, true, true, true, true, true, true, true] rfl rfl (by kernel_rfl) (fun _ _ _ h => h) (Or.inl ⟨by rfl, ?_⟩) ?_ ?_
                  rotate_left
                  · intro w'
                    go_simp
                    with_reducible rfl
                  rotate_left
                  · simp only [Act.put, List.setIfInBounds_toArray, List.set_cons_zero, List.set_cons_succ, i64_w, i32_w]
                    rfl
                  refine done_ (by kernel_rfl) ?_
                  replace hck := pw_cell_below sy1 hck
                  replace hcv := pw_cell_below sy1 hcv
                  replace hn := hid (hn.out.below sy1)
                  replace hm := hid (hm.out.below sy1)
                  replace hB := hid (below_then hB.out hB.out.size sy1)
                  clear hHeld sy1 
                  clear d0 d1 d2 d3
                  clear f0 f1 f2 f3
                  clear HF2
                  go_upto_region 28 with fail
                  have d0 : y1.cell? ⟨gn, 0, none⟩ = some (.bool n.leaf) := (blk_cell hn.out.box 0).trans rfl
                  have d1 : y1.cell? ⟨gn, 1, none⟩ = some (.slice (some ak) n.keys.length Ac1) := (blk_cell hn.out.box 1).trans rfl
                  have d2 : y1.cell? ⟨gn, 2, none⟩ = some (.slice (some av) n.vals.length Ac2) := (blk_cell hn.out.box 2).trans rfl
                  have d3 : y1.cell? ⟨gn, 3, none⟩ = some (.slice A3 n.kids.length Ac3) := (blk_cell hn.out.box 3).trans rfl
                  have f0 : y1.cell? ⟨gm, 0, none⟩ = some (.bool m.leaf) := (blk_cell hm.out.box 0).trans rfl
                  have f1 : y1.cell? ⟨gm, 1, none⟩ = some (.slice B1 m.keys.length Bc1) := (blk_cell hm.out.box 1).trans rfl
                  have f2 : y1.cell? ⟨gm, 2, none⟩ = some (.slice B2 m.vals.length Bc2) := (blk_cell hm.out.box 2).trans rfl
                  have f3 : y1.cell? ⟨gm, 3, none⟩ = some (.slice B3 m.kids.length Bc3) := (blk_cell hm.out.box 3).trans rfl
                  refine start_ (n := 16) (S := fun w' => Below y1.heap.size y1 w') (ds := []) #[false, false, false, false, false, false, false, false, false, false, false, false, false, false, false, false] (by kernel_rfl) rfl rfl (below_drew (Below.refl _ _)) (fun hHeld => ?_)
                  refine take_ (i := 0) (N := some 173) (v := ?_) (a' := ?_) #[true, false, false, false, false, false, false, false, false, false, false, false, false, false, false, false] rfl rfl (by kernel_rfl) (fun _ _ _ h => h) (Or.inl ⟨by rfl, ?_⟩) hHeld ?_ ?_
                  rotate_left
                  · rintro w' hb'
                    have dd0 := pw_cell_below hb' f0
                    have dd1 := pw_cell_below hb' f1
                    have dd2 := pw_cell_below hb' f2
                    have dd3 := pw_cell_below hb' f3
                    go_simp
                    with_reducible rfl
                  rotate_left
                  · simp only [Act.put, List.setIfInBounds_toArray, List.set_cons_zero, List.set_cons_succ, i64_w, i32_w]
                    rfl
                  refine pure_ (i := 1) (N := some 174) (v := ?_) (a' := ?_) #[true, true, false, false, false, false, false, false, false, false, false, false, false, false, false, false] rfl rfl (by kernel_rfl) (fun _ _ _ h => h) (Or.inl ⟨by rfl, ?_⟩) ?_ ?_
                  rotate_left
                  · intro w'
                    go_simp
                    with_reducible rfl
                  rotate_left
                  · simp only [Act.put, List.setIfInBounds_toArray, List.set_cons_zero, List.set_cons_succ, i64_w, i32_w]
                    rfl
                  refine take_ (i := 2) (N := some 175) (v := ?_) (a' := ?_) #[true, true, true, false, false, false, false, false, false, false, false, false, false, false, false, false] rfl rfl (by kernel_rfl) (fun _ _ _ h => h) (Or.inl ⟨by rfl, ?_⟩) hHeld ?_ ?_
                  rotate_left
                  · rintro w' hb'
                    have dd := pw_cell_below hb' d1
                    go_simp
                    with_reducible rfl
                  rotate_left
                  · simp only [Act.put, List.setIfInBounds_toArray, List.set_cons_zero, List.set_cons_succ, i64_w, i32_w]
                    rfl
                  refine pure_ (i := 3) (N := some 176) (v := ?_) (a' := ?_) #[true, true, true, true, false, false, false, false, false, false, false, false, false, false, false, false] rfl rfl (by kernel_rfl) (fun _ _ _ h => h) (Or.inl ⟨by rfl, ?_⟩) ?_ ?_
                  rotate_left
                  · intro w'
                    go_simp
                    with_reducible rfl
                  rotate_left
                  · simp only [Act.put, List.setIfInBounds_toArray, List.set_cons_zero, List.set_cons_succ, i64_w, i32_w]
                    rfl
                  refine pure_ (i := 4) (N := some 177) (v := ?_) (a' := ?_) #[true, true, true, true, true, false, false, false, false, false, false, false, false, false, false, false] rfl rfl (by kernel_rfl) (fun _ _ _ h => h) (Or.inl ⟨by rfl, ?_⟩) ?_ ?_
                  rotate_left
                  · intro w'
                    go_simp
                    with_reducible rfl
                  rotate_left
                  · simp only [Act.put, List.setIfInBounds_toArray, List.set_cons_zero, List.set_cons_succ, i64_w, i32_w]
                    rfl
                  refine take_ (i := 5) (N := some 178) (v := ?_) (a' := ?_) #[true, true, true, true, true, true, false, false, false, false, false, false, false, false, false, false] rfl rfl (by kernel_rfl) (fun _ _ _ h => h) (Or.inl ⟨by rfl, ?_⟩) hHeld ?_ ?_
                  rotate_left
                  · rintro w' hb'
                    have dd := pw_cell_below hb' hck
                    go_simp
                    with_reducible rfl
                  rotate_left
                  · simp only [Act.put, List.setIfInBounds_toArray, List.set_cons_zero, List.set_cons_succ, i64_w, i32_w]
                    rfl
                  refine pure_ (i := 6) (N := some 179) (v := ?_) (a' := ?_) #[true, true, true, true, true, true, true, false, false, false, false, false, false, false, false, false] rfl rfl (by kernel_rfl) (fun _ _ _ h => h) (Or.inl ⟨by rfl, ?_⟩) ?_ ?_
                  rotate_left
                  · intro w'
                    go_simp
                    with_reducible rfl
                  rotate_left
                  · simp only [Act.put, List.setIfInBounds_toArray, List.set_cons_zero, List.set_cons_succ, i64_w, i32_w]
                    rfl
                  refine take_ (i := 7) (N := some 180) (v := ?_) (a' := ?_) #[true, true, true, true, true, true, true, true, false, false, false, false, false, false, false, false] rfl rfl (by kernel_rfl) (fun _ _ _ h => h) (Or.inl ⟨by rfl, ?_⟩) hHeld ?_ ?_
                  rotate_left
                  · rintro w' hb'
                    have dd := pw_cell_below hb' d2
                    go_simp
                    with_reducible rfl
                  rotate_left
                  · simp only [Act.put, List.setIfInBounds_toArray, List.set_cons_zero, List.set_cons_succ, i64_w, i32_w]
                    rfl
                  refine pure_ (i := 8) (N := some 181) (v := ?_) (a' := ?_) #[true, true, true, true, true, true, true, true, true, false, false, false, false, false, false, false] rfl rfl (by kernel_rfl) (fun _ _ _ h => h) (Or.inl ⟨by rfl, ?_⟩) ?_ ?_
                  rotate_left
                  · intro w'
                    go_simp
                    with_reducible rfl
                  rotate_left
                  · simp only [Act.put, List.setIfInBounds_toArray, List.set_cons_zero, List.set_cons_succ, i64_w, i32_w]
                    rfl
                  refine pure_ (i := 9) (N := some 182) (v := ?_) (a' := ?_) #[true, true, true, true, true, true, true, true, true, true, false, false, false, false, false, false] rfl rfl (by kernel_rfl) (fun _ _ _ h => h) (Or.inl ⟨by rfl, ?_⟩) ?_ ?_
                  rotate_left
                  · intro w'
                    go_simp
                    with_reducible rfl
                  rotate_left
                  · simp only [Act.put, List.setIfInBounds_toArray, List.set_cons_zero, List.set_cons_succ, i64_w, i32_w]
                    rfl
                  refine take_ (i := 10) (N := some 183) (v := ?_) (a' := ?_) #[true, true, true, true, true, true, true, true, true, true, true, false, false, false, false, false] rfl rfl (by kernel_rfl) (fun _ _ _ h => h) (Or.inl ⟨by rfl, ?_⟩) hHeld ?_ ?_
                  rotate_left
                  · rintro w' hb'
                    have dd := pw_cell_below hb' hcv
                    go_simp
                    with_reducible rfl
                  rotate_left
                  · simp only [Act.put, List.setIfInBounds_toArray, List.set_cons_zero, List.set_cons_succ, i64_w, i32_w]
                    rfl
                  refine take_ (i := 12) (N := some 185) (v := ?_) (a' := ?_) #[true, true, true, true, true, true, true, true, true, true, true, false, true, false, false, false] rfl rfl (by kernel_rfl) (fun _ _ _ h => h) (Or.inl ⟨by rfl, ?_⟩) hHeld ?_ ?_
                  rotate_left
                  · rintro w' hb'
                    have dd0 := pw_cell_below hb' d0
                    have dd1 := pw_cell_below hb' d1
                    have dd2 := pw_cell_below hb' d2
                    have dd3 := pw_cell_below hb' d3
                    go_simp
                    with_reducible rfl
                  rotate_left
                  · simp only [Act.put, List.setIfInBounds_toArray, List.set_cons_zero, List.set_cons_succ, i64_w, i32_w]
                    rfl
                  refine one_ (i := 11) (N := some 184) #[true, true, true, true, true, true, true, true, true, true, true, true, true, false, false, false] rfl rfl (by kernel_rfl) (by decide) (fun K hK => ?_)
                  refine goes_ Try.func22 (by kernel_rfl) rfl #[(.agg #[.bool m.leaf, .slice B1 m.keys.length Bc1, .slice B2 m.vals.length Bc2, .slice B3 m.kids.length Bc3]), .int .u64 ki, .string vi] (by rfl) rfl rfl (by (try simp only [List.map_toArray, List.map_cons, List.map_nil]); first | done | rfl) ?_
                  refine (HP2.out _ _ (hm.out.below (below_drew (Below.refl _ _))).at_).mono ?_
                  rintro r z1 ⟨vu, rfl, qu, qz⟩
                  replace qu := hid qu
                  have sz1 := below_then (below_drew (Below.refl _ _)) (Nat.le_refl _) qz
                  clear qz
                  refine ⟨_, rfl, ?_⟩
                  refine hK.out _ _ sz1 (fun hHeld => ?_)
                  clear hK K
                  refine norm_ (a' := ?_) ?_ ?_
                  rotate_left
                  · show Act.put _ (some 184) _ = _
                    simp only [Act.put, List.setIfInBounds_toArray, List.set_cons_zero, List.set_cons_succ, i64_w, i32_w]
                    rfl
                  refine one_ (i := 13) (N := some 186) #[true, true, true, true, true, true, true, true, true, true, true, true, true, true, false, false] rfl rfl (by kernel_rfl) (by decide) (fun K hK => ?_)
                  refine goes_ Try.func16 (by kernel_rfl) rfl #[(.agg #[.bool n.leaf, .slice (some ak) n.keys.length Ac1, .slice (some av) n.vals.length Ac2, .slice A3 n.kids.length Ac3])] (by rfl) rfl rfl (by (try simp only [List.map_toArray, List.map_cons, List.map_nil]); first | done | rfl) ?_
                  refine (HR.out _ _ (hn.out.below sz1).at_).mono ?_
                  rintro r z2 ⟨vr, rfl, qr, qz⟩
                  replace qr := hid qr
                  replace qu := hid (qu.out.below qz)
                  have sz2 := below_then sz1 sz1.size qz
                  clear qz
                  refine ⟨_, rfl, ?_⟩
                  refine hK.out _ _ sz2 (fun hHeld => ?_)
                  clear hK K
                  refine norm_ (a' := ?_) ?_ ?_
                  rotate_left
                  · show Act.put _ (some 186) _ = _
                    simp only [Act.put, List.setIfInBounds_toArray, List.set_cons_zero, List.set_cons_succ, i64_w, i32_w]
                    rfl
                  refine one_ (i := 14) (N := some 187) #[true, true, true, true, true, true, true, true, true, true, true, true, true, true, true, false] rfl rfl (by kernel_rfl) (by decide) (fun K hK => ?_)
                  refine goes_ Try.func14 (by kernel_rfl) rfl #[vu, vr] (by rfl) rfl rfl (by (try simp only [List.map_toArray, List.map_cons, List.map_nil]); first | done | rfl) ?_
                  refine (HS.out _ _ _ qu.out qr.out).mono ?_
                  rintro r z3 ⟨rfl, qz⟩
                  replace qu := hid (qu.out.below qz)
                  replace qr := hid (qr.out.below qz)
                  have sz3 := below_then sz2 sz2.size qz
                  clear qz
                  refine ⟨_, rfl, ?_⟩
                  refine hK.out _ _ sz3 (fun hHeld => ?_)
                  clear hK K
                  refine norm_ (a' := ?_) ?_ ?_
                  rotate_left
                  · show Act.put _ (some 187) _ = _
                    simp only [Act.put, List.setIfInBounds_toArray, List.set_cons_zero, List.set_cons_succ, i64_w, i32_w]
                    rfl
                  refine pure_ (i := 15) (N := some 19) (v := ?_) (a' := ?_) #[true, true, true, true, true, true, true, true, true, true, true, true, true, true, true, true] rfl rfl (by kernel_rfl) (fun _ _ _ h => h) (Or.inl ⟨by rfl, ?_⟩) ?_ ?_
                  rotate_left
                  · intro w'
                    go_simp
                    with_reducible rfl
                  rotate_left
                  · simp only [Act.put, List.setIfInBounds_toArray, List.set_cons_zero, List.set_cons_succ, i64_w, i32_w]
                    rfl
                  refine done_ (by kernel_rfl) ?_
                  replace hck := pw_cell_below sz3 hck
                  replace hcv := pw_cell_below sz3 hcv
                  replace hn := hid (hn.out.below sz3)
                  replace hm := hid (hm.out.below sz3)
                  replace hB := hid (below_then hB.out hB.out.size sz3)
                  clear hHeld sz1 sz2 sz3 qu qr
                  clear d0 d1 d2 d3
                  clear f0 f1 f2 f3
                  clear HP2 HR HS hck hcv g2
                  have g3 : (m.keys.length : Int) = wrap64 ((n.keys.length : Int) - 1) := by have h1 := m3.out; have h2 := n1.out; rw [wr64 _ (by omega) (by omega)]; omega
                  clear g1
                  have d0 : z3.cell? ⟨gn, 0, none⟩ = some (.bool n.leaf) := (blk_cell hn.out.box 0).trans rfl
                  have d1 : z3.cell? ⟨gn, 1, none⟩ = some (.slice (some ak) n.keys.length Ac1) := (blk_cell hn.out.box 1).trans rfl
                  have d2 : z3.cell? ⟨gn, 2, none⟩ = some (.slice (some av) n.vals.length Ac2) := (blk_cell hn.out.box 2).trans rfl
                  have d3 : z3.cell? ⟨gn, 3, none⟩ = some (.slice A3 n.kids.length Ac3) := (blk_cell hn.out.box 3).trans rfl
                  have f0 : z3.cell? ⟨gm, 0, none⟩ = some (.bool m.leaf) := (blk_cell hm.out.box 0).trans rfl
                  have f1 : z3.cell? ⟨gm, 1, none⟩ = some (.slice B1 m.keys.length Bc1) := (blk_cell hm.out.box 1).trans rfl
                  have f2 : z3.cell? ⟨gm, 2, none⟩ = some (.slice B2 m.vals.length Bc2) := (blk_cell hm.out.box 2).trans rfl
                  have f3 : z3.cell? ⟨gm, 3, none⟩ = some (.slice B3 m.kids.length Bc3) := (blk_cell hm.out.box 3).trans rfl
                  go_wp2_with fail
                  go_ret
                  exact ⟨rfl, hB.out⟩
end Go.Proofs.Ytnghbfegijnolaa.A
