/-
  The walk of slices.Repeat over one text, and of disk.New.
  The walk of disk.New.
  A disk's Write and Read, each in one contract.
-/
import Derived.Test.YtnffhdlkkfphbaaD7
import Derived.StillTailTactics
import Derived.Lib.SlBuf
import Derived.Laws.CopyRow
namespace Go.Proofs.Ytnffhdlkkfphbaa.D
set_option linter.unusedVariables false
set_option linter.unusedSimpArgs false
open Go.RowKit Go.Proofs.YtnffhdlkkfphbaaW.PrintWords Go.Proofs.YtnffhdlkkfphbaaW.PrintLast Go.Proofs.YtnffhdlkkfphbaaW.PrintMore
open Go.Lib (hid)
theorem info9 : (Try.prog.info? 9).map (fun i => (i.zero, i.size, i.bytes)) = some (some (.string ⟨#[]⟩), 1, 16) := by kernel_rfl
theorem size9 : (Try.prog.info? 9).map (·.size) = some 1 := by kernel_rfl
/-- Block b is a row of N texts, the first k of them x. -/
def RowK (W : World) (b N k : Nat) (x : ByteArray) : Prop := W.heap[b]? = some (.cells ((List.replicate k (Value.string x)) ++ List.replicate (N - k) (Value.string ⟨#[]⟩)).toArray 9 (0, 0))
theorem rep_copy (W : World) (ty b N k sl c1 c2 : Nat) (a : Addr) (x : ByteArray) (h : RowK W b N k x) (hk : k ≤ N) (ha : ∀ j, j < Nat.min sl (N - k) → W.cell? (a.add j) = some (.string x)) :
    ∃ W', (Builtin.copy_ #[38, 38] ty #[.slice (some ⟨b, k, none⟩) (N - k) c1, .slice (some a) sl c2]).run Try.prog W = .ok (goInt ((Nat.min sl (N - k) : Nat) : Int)) W' ∧ RowK W' b N (k + Nat.min sl (N - k)) x ∧ (∀ B, B ≤ b → ∀ w, Below B w W → Below B w W') := by
  have hm : Nat.min sl (N - k) ≤ N - k := Nat.min_le_right _ _
  have hr := run_copy_row (P := Try.prog) W 38 38 ty 9 b k (N - k) c1 a sl c2 _ 9 (List.replicate (Nat.min sl (N - k)) (Value.string x)) Try.underlying38 size9 h (by rw [List.length_replicate]) (fun j v hj => by
    obtain ⟨hl, hv⟩ := List.getElem?_eq_some_iff.1 hj
    rw [List.length_replicate] at hl
    rw [List.getElem_replicate] at hv
    rw [← hv]
    exact ha j hl) (by simp; omega) (fun v hv => by rw [(List.mem_replicate.1 hv).2]; rfl)
  rw [List.length_replicate] at hr
  refine ⟨_, hr, ?_, fun B hB w hb => ?_⟩
  · have e : ((((List.replicate k (Value.string x)) ++ List.replicate (N - k) (Value.string ⟨#[]⟩)).toArray.toList.take k ++ List.replicate (Nat.min sl (N - k)) (Value.string x)) ++ ((List.replicate k (Value.string x)) ++ List.replicate (N - k) (Value.string ⟨#[]⟩)).toArray.toList.drop (k + Nat.min sl (N - k))) =
        List.replicate (k + Nat.min sl (N - k)) (Value.string x) ++ List.replicate (N - (k + Nat.min sl (N - k))) (Value.string ⟨#[]⟩) := by
      generalize Nat.min sl (N - k) = m at *
      rw [List.take_left' (by simp), List.drop_append, List.drop_eq_nil_of_le (by simp), List.drop_replicate, List.length_replicate, List.nil_append, List.replicate_append_replicate]
      rw [show N - k - (k + m - k) = N - (k + m) by omega]
    exact (setRow_heap W b _ _ 9 _ h).trans (by rw [e])
  · refine ⟨hb.os, hb.tape, hb.output, ?_, fun i hi => ?_⟩
    · rw [setRow_size]; exact hb.size
    · exact (setRow_other W b i _ (by omega)).trans (hb.block i hi)
section
variable {P : Program} {ops : Array Oper} {Q : Exit → Act → World → Prop}
theorem copied_ {oi : Oper} {N : Option Tmp} {a : Act} {w w1 : World} {v' : Value} {K : Act → World → Prop} (hw : Region.wanted oi (yielded ops a.tmps) = true) (hN : oi.dst = N) (d s : Operand) (t t' : TypeId)
    (ho : oi.op = .call { callee := .builtin .copy, args := #[d, s], argTypes := #[t, t'] }) (v u : Value) (hd : a.eval d = v) (hs : a.eval s = u) (hr : (Builtin.copy_ #[t, t'] oi.type #[v, u]).run P w = .ok v' w1)
    (h : K (a.put N v') w1) : if Region.wanted oi (yielded ops a.tmps) = true then Oper.wp P oi a w K Q else K (a.put N undef) w := by
  rw [if_pos hw]
  subst hN
  exact Go.Lib.wp_copy_run w d s t t' ho v u hd hs hr h
end
set_option maxRecDepth 100000 in
theorem Repeat.calls (g n : Nat) (x : ByteArray) (w : World) (h : w.heap[g]? = some (.cells #[.string x] 9 (0, 0))) (hn : 0 < n ∧ n ≤ 1000) :
    Calls Try.prog 42 #[.slice (some ⟨g, 0, none⟩) 1 1, .int .i64 (n : Int)] w fun e w' => e = .returned (.slice (some ⟨w.heap.size, 0, none⟩) n n) ∧ RowK w' w.heap.size n n x ∧ Below w.heap.size w w' := by
  have c0 : w.cell? ⟨g, 0, none⟩ = some (.string x) := (blk_cell h 0).trans rfl
  have hgl := blk_lt h
  have hM := hid (fun W => show Calls Try.prog 50 #[.int .u64 1, .int .u64 (n : Int)] W fun e w' => e = .returned (.tuple #[.int .u64 0, .int .u64 (n : Int)]) ∧ w' = W from by
    have := Try.bits_Mul 1 n (by omega) (by omega) W
    rw [show 1 * n / 18446744073709551616 = 0 by omega, show 1 * n % 18446744073709551616 = n by omega] at this
    exact this)
  have q1 : ¬ ((n : Int) < 0) := by omega
  have q2 : ¬ (9223372036854775807 < (n : Int)) := by omega
  have hmk := print_make_of (P := Try.prog) 38 9 (.string ⟨#[]⟩) 16 Try.underlying38 info9 rfl (by decide) n (by omega)
  obtain ⟨W0, hW0⟩ : ∃ W0, W0 = w.alloc (.cells (madeCells #[.string ⟨#[]⟩] n) 9) := ⟨_, rfl⟩
  have hR0 : RowK W0 w.heap.size n 0 x := by
    have e : madeCells #[Value.string ⟨#[]⟩] n = (List.replicate 0 (Value.string x) ++ List.replicate (n - 0) (Value.string ⟨#[]⟩)).toArray := by
      apply Array.ext_getElem?
      intro i
      by_cases hi : i < n
      · rw [Array.getElem?_eq_getElem (by rw [size_madeCells]; exact hi)]
        simp [madeCells, Nat.mod_one, hi]
      · rw [Array.getElem?_eq_none (by rw [size_madeCells]; omega), Array.getElem?_eq_none (by simp; omega)]
    unfold RowK
    rw [hW0, ← e]
    first | exact Array.getElem?_push_size | simp [World.alloc]
  have hB0 : Below w.heap.size w W0 := by rw [hW0]; exact (Below.refl _ w).alloc (Nat.le_refl _) _
  have hmin : Nat.min 1 (n - 0) = 1 := Nat.min_eq_left (by omega)
  obtain ⟨W1, hr1, hR1, hB1⟩ := rep_copy W0 3 w.heap.size n 0 1 n 1 ⟨g, 0, none⟩ x hR0 (by omega) (fun j hj => by
    rw [hmin] at hj
    have : j = 0 := by omega
    subst this
    exact (hB0.cell hgl).trans c0)
  rw [hmin] at hr1 hR1
  have hR1 := hid hR1
  have hB1 := hid (hB1 _ (Nat.le_refl _) w hB0)
  have hmk0 := hmk w
  rw [← hW0] at hmk0
  clear h hmk hW0 hR0 hB0 hmin c0
  go_enter Try.func42, Try.ntmps42
  go_wp2_with (first | (refine Calls.mono (hM.out _) ?_; rintro e w' ⟨rfl, rfl⟩) | ((with_reducible refine gate_builtin (b := .copy) rfl ?_); refine Go.Lib.wpList_copy_run _ rfl (.tmp 31) (.tmp 32) 38 38 rfl _ _ rfl rfl hr1 ?_))
  go_loopg [8] n (fun g v8 wr => ∃ (k : Nat), v8 = .int .i64 (k : Int) ∧ 1 ≤ k ∧ k ≤ n ∧ n ≤ k + g ∧ Hid (RowK wr w'.heap.size n k x) ∧ Hid (Below w'.heap.size w' wr))
  case atStart => exact ⟨1, rfl, by omega, by omega, by omega, hR1, hB1⟩
  case round =>
    obtain ⟨k, rfl, hk1, hk2, hk3, hR, hB⟩ := hrel
    by_cases hkn : k = n
    · subst hkn
      go_wp2_with fail
      go_ret
      exact ⟨rfl, hR.out, hB.out⟩
    · have hlt : (k : Int) < (n : Int) := by omega
      have hle : (k : Int) ≤ (n : Int) := by omega
      cases gk with
      | zero => omega
      | succ g =>
        obtain ⟨W2, hr2, hR2, hB2⟩ := rep_copy wr.drew 3 w'.heap.size n k k (n - k) n ⟨w'.heap.size, 0, none⟩ x hR.out (by omega) (fun j hj => by
          have h1 : Nat.min k (n - k) ≤ k := Nat.min_le_left _ _
          have h2 := blk_cell hR.out j
          have h3 : ((⟨w'.heap.size, 0, none⟩ : Addr).add j) = ⟨w'.heap.size, j, none⟩ := by unfold Addr.add; split <;> simp_all
          rw [h3]
          refine h2.trans ?_
          rw [List.getElem?_toArray, List.getElem?_append_left (by rw [List.length_replicate]; omega), List.getElem?_replicate, if_pos (by omega)])
        have hm1 : Nat.min k (n - k) ≤ k := Nat.min_le_left _ _
        have hm2 : Nat.min k (n - k) ≤ n - k := Nat.min_le_right _ _
        have hm3 : 1 ≤ Nat.min k (n - k) := Nat.le_min.2 ⟨hk1, by omega⟩
        generalize Nat.min k (n - k) = m at *
        have hnk : ¬ (n = k) := by omega
        have hR2 := hid hR2
        have hB2 := hid (hB2 _ (Nat.le_refl _) w' hB.out.drew)
        go_upto_region 9 with fail
        refine start_ (n := 10) (S := fun w' => True) (ds := [7]) #[false, false, false, false, false, false, false, false, false, false] (by kernel_rfl) rfl rfl trivial (fun hHeld => ?_)
        refine pure_ (i := 0) (N := some 38) (v := ?_) (a' := ?_) #[true, false, false, false, false, false, false, false, false, false] rfl rfl (by kernel_rfl) (fun _ _ _ h => h) (Or.inl ⟨by rfl, ?_⟩) ?_ ?_
        rotate_left
        · intro w'
          go_simp
          with_reducible rfl
        rotate_left
        · simp only [Act.put, List.setIfInBounds_toArray, List.set_cons_zero, List.set_cons_succ, i64_w, i32_w]
          rfl
        refine pure_ (i := 1) (N := some 39) (v := ?_) (a' := ?_) #[true, true, false, false, false, false, false, false, false, false] rfl rfl (by kernel_rfl) (fun _ _ _ h => h) (Or.inl ⟨by rfl, ?_⟩) ?_ ?_
        rotate_left
        · intro w'
          go_simp
          with_reducible rfl
        rotate_left
        · simp only [Act.put, List.setIfInBounds_toArray, List.set_cons_zero, List.set_cons_succ, i64_w, i32_w]
          rfl
        refine pure_ (i := 2) (N := some 40) (v := ?_) (a' := ?_) #[true, true, true, false, false, false, false, false, false, false] rfl rfl (by kernel_rfl) (fun _ _ _ h => h) (Or.inl ⟨by rfl, ?_⟩) ?_ ?_
        rotate_left
        · intro w'
          go_simp
          with_reducible rfl
        rotate_left
        · simp only [Act.put, List.setIfInBounds_toArray, List.set_cons_zero, List.set_cons_succ, i64_w, i32_w]
          rfl
        refine pure_ (i := 3) (N := some 41) (v := ?_) (a' := ?_) #[true, true, true, true, false, false, false, false, false, false] rfl rfl (by kernel_rfl) (fun _ _ _ h => h) (Or.inl ⟨by rfl, ?_⟩) ?_ ?_
        rotate_left
        · intro w'
          go_simp
          with_reducible rfl
        rotate_left
        · simp only [Act.put, List.setIfInBounds_toArray, List.set_cons_zero, List.set_cons_succ, i64_w, i32_w]
          rfl
        refine pure_ (i := 4) (N := some 42) (v := ?_) (a' := ?_) #[true, true, true, true, true, false, false, false, false, false] rfl rfl (by kernel_rfl) (fun _ _ _ h => h) (Or.inl ⟨by rfl, ?_⟩) ?_ ?_
        rotate_left
        · intro w'
          go_simp
          with_reducible rfl
        rotate_left
        · simp only [Act.put, List.setIfInBounds_toArray, List.set_cons_zero, List.set_cons_succ, i64_w, i32_w]
          rfl
        refine pure_ (i := 5) (N := some 43) (v := ?_) (a' := ?_) #[true, true, true, true, true, true, false, false, false, false] rfl rfl (by kernel_rfl) (fun _ _ _ h => h) (Or.inl ⟨by rfl, ?_⟩) ?_ ?_
        rotate_left
        · intro w'
          go_simp
          with_reducible rfl
        rotate_left
        · simp only [Act.put, List.setIfInBounds_toArray, List.set_cons_zero, List.set_cons_succ, i64_w, i32_w]
          rfl
        refine pure_ (i := 6) (N := some 44) (v := ?_) (a' := ?_) #[true, true, true, true, true, true, true, false, false, false] rfl rfl (by kernel_rfl) (fun _ _ _ h => h) (Or.inl ⟨by rfl, ?_⟩) ?_ ?_
        rotate_left
        · intro w'
          go_simp
          with_reducible rfl
        rotate_left
        · simp only [Act.put, List.setIfInBounds_toArray, List.set_cons_zero, List.set_cons_succ, i64_w, i32_w]
          rfl
        refine last_ (i := 7) (N := some 45) #[true, true, true, true, true, true, true, true, false, false] rfl rfl (by kernel_rfl) (by decide) (fun K hK => ?_)
        refine copied_ (by rfl) rfl (.tmp 41) (.tmp 44) 38 38 rfl _ _ rfl rfl hr2 ?_
        refine hK.out _ _ ?_
        clear hK K
        refine pure_ (i := 8) (N := some 46) (v := ?_) (a' := ?_) #[true, true, true, true, true, true, true, true, true, false] rfl rfl (by kernel_rfl) (fun _ _ _ h => h) (Or.inl ⟨by rfl, ?_⟩) ?_ ?_
        rotate_left
        · intro w'
          go_simp
          with_reducible rfl
        rotate_left
        · simp only [Act.put, List.setIfInBounds_toArray, List.set_cons_zero, List.set_cons_succ, i64_w, i32_w]
          rfl
        refine pure_ (i := 9) (N := some 8) (v := ?_) (a' := ?_) #[true, true, true, true, true, true, true, true, true, true] rfl rfl (by kernel_rfl) (fun _ _ _ h => h) (Or.inl ⟨by rfl, ?_⟩) ?_ ?_
        rotate_left
        · intro w'
          go_simp
          with_reducible rfl
        rotate_left
        · simp only [Act.put, List.setIfInBounds_toArray, List.set_cons_zero, List.set_cons_succ, i64_w, i32_w]
          rfl
        refine done_ (by kernel_rfl) ?_
        go_wp2_with fail
        go_roundg g
        case measure => omega
        case rel => exact ⟨k + m, by rw [show wrap64 ((k : Int) + (m : Int)) = ((k + m : Nat) : Int) by unfold wrap64; omega], by omega, by omega, by omega, hR2, hB2⟩
def zeros : ByteArray := ⟨(Lib.repeatL [0] 256).toArray⟩
theorem new_fin {F : Nat → Prop} (w3 : World) (b n : Nat) (Z : ByteArray) (hn : 0 < n ∧ n ≤ 1000) (hZ : Z.size ≤ 1000000000) (hR : RowK w3 b n n Z) (hb : F b) (hF : ∀ i, w3.heap.size ≤ i → F i) :
    DiskAt F ((w3.alloc (.map #[] 0)).alloc (.cells #[.slice (some ⟨b, 0, none⟩) n n, .map (some w3.heap.size), .slice none 0 0, .int .i64 (-1), .bool false] 80)) (w3.heap.size + 1) { now := List.replicate n Z, loose := [], fuse := -1, gone := false } := by
  have hz : (w3.alloc (.map #[] 0)).heap.size = w3.heap.size + 1 := by simp
  have hR2 : w3.heap[b]? = some (.cells ((List.replicate n Z).map Value.string).toArray 9 (0, 0)) := by
    refine hR.trans ?_
    rw [Nat.sub_self, List.replicate_zero, List.append_nil, List.map_replicate]
  refine ⟨b, w3.heap.size, .slice none 0 0, ?_, blk_alloc (blk_alloc hR2 _) _, (MapS.new w3).kept (Below.heap_alloc _ _ _ (by omega)), Kd.R_nil _ _ _ _ _, hF _ (by omega), hb, hF _ (Nat.le_refl _), by rw [List.length_replicate]; exact hn, ?_, ⟨(by decide : (-1 : Int) ≤ -1), (by decide : (-1 : Int) ≤ 9223372036854775807)⟩, fun p hp => absurd hp List.not_mem_nil⟩
  · rw [← hz, List.length_replicate]
    exact Array.getElem?_push_size
  · intro s hs
    rw [(List.mem_replicate.1 hs).2]
    exact hZ
set_option maxRecDepth 100000 in
theorem zeros_size : zeros.size = 256 := by
  show (Lib.repeatL [0] 256).length = 256
  decide +kernel
set_option maxRecDepth 100000 in
theorem New.ok (n : Nat) (hn : 8 ≤ n ∧ n ≤ 640) (w : World) :
    Calls Try.prog 21 #[.int .i64 (n : Int)] w fun e w' => ∃ d, e = .returned (.tuple #[.pointer (some ⟨d, 0, none⟩), .int .i64 0]) ∧ DiskAt (fun i => w.heap.size ≤ i) w' d { now := List.replicate n zeros, loose := [], fuse := -1, gone := false } ∧ Below w.heap.size w w' := by
  have hZ : Hid (zeros.size ≤ 1000000000) := hid (by rw [zeros_size]; omega)
  have hS : Hid (∀ W, Calls Try.prog 41 #[.string ⟨#[0]⟩, .int .i64 256] W fun e w' => e = .returned (.string zeros) ∧ Below W.heap.size W w') :=
    hid (fun W => Try.strings_Repeat ⟨#[0]⟩ 256 W (by decide) (by decide))
  generalize zeros = Z at *
  have hRp := hid (fun W1 : World => Repeat.calls W1.heap.size n Z (W1.alloc (.cells #[.string Z] 9)) Array.getElem?_push_size (by omega))
  have q1 : ¬ ((n : Int) < 8) := by omega
  have q2 : ¬ (640 < (n : Int)) := by omega
  have hmm := @run_makeMap Try.prog
  go_enter Try.func21, Try.ntmps21
  go_wp2_with (first | (refine Calls.mono (hS.out _) ?_; rintro e w1 ⟨rfl, hb1⟩; replace hb1 := hid hb1) | (refine Calls.mono (hRp.out _) ?_; rintro e w2 ⟨rfl, hr2, hb2⟩; replace hr2 := hid hr2; replace hb2 := hid hb2))
  have hs1 : (w1.alloc (.cells #[.string Z] 9)).heap.size = w1.heap.size + 1 := by simp
  rw [hs1] at hr2 hb2
  have hle1 := hb1.out.size
  have hle2 := hb2.out.size
  rw [hs1] at hle2
  have hbw : Below w.heap.size w w2 := Below.trans (Below.alloc hb1.out hle1 _) (hb2.out.mono (by omega))
  go_ret2
  exact ⟨_, rfl, new_fin w2 (w1.heap.size + 1) n Z (by omega) hZ.out hr2.out (by show w.heap.size ≤ w1.heap.size + 1; omega) (fun i hi => by show w.heap.size ≤ i; omega), Below.alloc (Below.alloc hbw (by omega) _) (by simp; omega) _⟩
/-- What a Write answers, and what the disk is then. -/
def writes (st : St) (n : Int) (s : ByteArray) : Int × St :=
  if st.gone then (5, st)
  else if n < 0 ∨ (st.now.length : Int) ≤ n then (1, st)
  else if s.size ≠ 256 then (1, st)
  else if st.fuse = 0 then (5, { st with gone := true })
  else (0, { st with fuse := max (-1) (st.fuse - 1), loose := if hasS st.loose n then st.loose else st.loose ++ [(n, st.now.getD n.toNat ⟨#[]⟩)], now := st.now.set n.toNat s })
theorem Write.calls (F : Nat → Prop) (d : Nat) (st : St) (n : Int) (s : ByteArray) (w : World) (h : DiskAt F w d st) (hll : st.loose.length ≤ 100000) :
    Calls Try.prog 23 #[.pointer (some ⟨d, 0, none⟩), .int .i64 n, .string s] w fun e w' => e = .returned (.int .i64 (writes st n s).1) ∧ DiskAt (fun i => F i ∨ w.heap.size ≤ i) w' d (writes st n s).2 ∧ Fr (fun i => F i ∨ w.heap.size ≤ i) w w' := by
  have hsame : ∀ r, r = (writes st n s).1 → (writes st n s).2 = st → Calls Try.prog 23 #[.pointer (some ⟨d, 0, none⟩), .int .i64 n, .string s] w (fun e w' => e = .returned (.int .i64 r) ∧ w = w') →
      Calls Try.prog 23 #[.pointer (some ⟨d, 0, none⟩), .int .i64 n, .string s] w fun e w' => e = .returned (.int .i64 (writes st n s).1) ∧ DiskAt (fun i => F i ∨ w.heap.size ≤ i) w' d (writes st n s).2 ∧ Fr (fun i => F i ∨ w.heap.size ≤ i) w w' := by
    intro r h1 h2 hc
    refine hc.mono ?_
    rintro e w' ⟨rfl, rfl⟩
    rw [h2, ← h1]
    exact ⟨rfl, h.more (fun _ h => .inl h), Fr.refl _ _⟩
  by_cases hg : st.gone = true
  · exact hsame 5 (by simp [writes, hg]) (by simp [writes, hg]) (Write.no d n 5 (by decide) s w (may.gone_ F d st n w h hg))
  · have hg : st.gone = false := by simpa using hg
    by_cases h0 : n < 0
    · exact hsame 1 (by simp [writes, hg, h0]) (by simp [writes, hg, h0]) (Write.no d n 1 (by decide) s w (may.low F d st n w h hg h0))
    · by_cases h1 : n < (st.now.length : Int)
      · obtain ⟨m, rfl⟩ : ∃ m : Nat, n = (m : Int) := ⟨n.toNat, by omega⟩
        have hm : m < st.now.length := by omega
        have hr : ¬ ((m : Int) < 0 ∨ (st.now.length : Int) ≤ (m : Int)) := by omega
        by_cases hs : s.size = 256
        · by_cases hf : st.fuse = 0
          · refine (Write.down F d st m s hs w h hg hm hf).mono ?_
            rintro e w' ⟨rfl, h1, h2⟩
            have e : writes st (m : Int) s = (5, { st with gone := true }) := by
              unfold writes
              rw [hg, if_neg (by decide), if_neg hr, if_neg (by omega), if_pos hf]
            rw [e]
            exact ⟨rfl, h1.more (fun _ h => .inl h), h2.more (fun _ h => .inl h)⟩
          · by_cases hl : hasS st.loose (m : Int) = true
            · refine (Write.again F d st m s hs w h hg hm hf hl).mono ?_
              rintro e w' ⟨rfl, h1, h2⟩
              have e : writes st (m : Int) s = (0, { st with fuse := max (-1) (st.fuse - 1), now := st.now.set m s }) := by
                unfold writes
                rw [hg, if_neg (by decide), if_neg hr, if_neg (by omega), if_neg hf, if_pos hl, Int.toNat_natCast, ← hg]
              rw [e]
              exact ⟨rfl, h1.more (fun _ h => .inl h), h2.more (fun _ h => .inl h)⟩
            · have hl' : hasS st.loose (m : Int) = false := by simpa using hl
              refine (Write.first F d st m s hs w h hg hm hf hl' hll).mono ?_
              rintro e w' ⟨rfl, h1, h2⟩
              have e : writes st (m : Int) s = (0, { st with fuse := max (-1) (st.fuse - 1), loose := st.loose ++ [((m : Int), st.now.getD m ⟨#[]⟩)], now := st.now.set m s }) := by
                unfold writes
                rw [hg, if_neg (by decide), if_neg hr, if_neg (by omega), if_neg hf, if_neg hl, Int.toNat_natCast, ← hg]
              rw [e]
              exact ⟨rfl, h1, h2⟩
        · have e : writes st (m : Int) s = (1, st) := by
            unfold writes
            rw [hg, if_neg (by decide), if_neg hr, if_pos hs]
          exact hsame 1 (by rw [e]) (by rw [e]) (Write.size F d st m s hs w h hg hm)
      · have e : writes st n s = (1, st) := by
          unfold writes
          rw [hg, if_neg (by decide), if_pos (.inr (by omega))]
        exact hsame 1 (by rw [e]) (by rw [e]) (Write.no d n 1 (by decide) s w (may.high F d st n w h hg (by omega) h1))
/-- What a Read answers. -/
def reads (st : St) (n : Int) : ByteArray × Int :=
  if st.gone then (⟨#[]⟩, 5) else if n < 0 ∨ (st.now.length : Int) ≤ n then (⟨#[]⟩, 1) else (st.now.getD n.toNat ⟨#[]⟩, 0)
theorem Read.calls (F : Nat → Prop) (d : Nat) (st : St) (n : Int) (w : World) (h : DiskAt F w d st) :
    Calls Try.prog 24 #[.pointer (some ⟨d, 0, none⟩), .int .i64 n] w fun e w' => e = .returned (.tuple #[.string (reads st n).1, .int .i64 (reads st n).2]) ∧ w = w' := by
  by_cases hg : st.gone = true
  · have e : reads st n = (⟨#[]⟩, 5) := by simp [reads, hg]
    rw [e]
    exact Read.no F d st n 5 (by decide) w (may.gone_ F d st n w h hg)
  · have hg : st.gone = false := by simpa using hg
    by_cases h0 : n < 0
    · have e : reads st n = (⟨#[]⟩, 1) := by simp [reads, hg, h0]
      rw [e]
      exact Read.no F d st n 1 (by decide) w (may.low F d st n w h hg h0)
    · by_cases h1 : n < (st.now.length : Int)
      · obtain ⟨m, rfl⟩ : ∃ m : Nat, n = (m : Int) := ⟨n.toNat, by omega⟩
        have e : reads st (m : Int) = (st.now.getD m ⟨#[]⟩, 0) := by
          unfold reads
          rw [hg, if_neg (by decide), if_neg (by omega), Int.toNat_natCast]
        rw [e]
        exact Read.ok F d st m w h hg (by omega)
      · have e : reads st n = (⟨#[]⟩, 1) := by
          unfold reads
          rw [hg, if_neg (by decide), if_pos (.inr (by omega))]
        rw [e]
        exact Read.no F d st n 1 (by decide) w (may.high F d st n w h hg (by omega) h1)
end Go.Proofs.Ytnffhdlkkfphbaa.D
