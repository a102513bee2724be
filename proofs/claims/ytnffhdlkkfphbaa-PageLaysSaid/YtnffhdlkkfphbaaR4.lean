/-
  The document's disk: an append onto a slice with no room; Write's refusals.
  The document's disk: the walk of its Write.
-/
import Derived.Test.YtnffhdlkkfphbaaR2
import Derived.ArgAppend
namespace Go.Proofs.Ytnffhdlkkfphbaa.D
set_option linter.unusedVariables false
set_option linter.unusedSimpArgs false
open Go.RowKit Go.Proofs.YtnffhdlkkfphbaaW.PrintWords Go.Proofs.YtnffhdlkkfphbaaW.PrintLast Go.Proofs.YtnffhdlkkfphbaaW.PrintMore
open Go.Lib (hid)
theorem info90 : (Try.prog.info? 90).map (fun i => (i.zero, i.size, i.bytes)) = some (some (.agg #[.int .i64 0, .string ⟨#[]⟩]), 2, 24) := by kernel_rfl
set_option maxRecDepth 100000 in
theorem append_full_step {ops : Array Oper} {o : Oper} {a : Act} {Q : Exit → Act → World → Prop} {Kc : Act → World → Prop} (hw : Region.wanted o (yielded ops a.tmps) = true) (s x : Operand)
    (ho : o.op = .call { callee := .builtin .append, args := #[s, x], argTypes := #[84, 84] }) (W : World) (F : Nat → Prop) (lA : Option Addr) (n c : Nat) (xs : List H.S90) (k : Int) (y : ByteArray)
    (hs : a.eval s = .slice lA n n) (hx : a.eval x = .slice (some ⟨W.heap.size, 0, none⟩) 1 1) (HO : Kd.R H.k90 90 W 0 F (.slice lA n c) xs) (hf : ∀ q, W.heap.size ≤ q → F q) (hl : n ≤ 100000)
    (h : ∀ v1 w1, Kd.R H.k90 90 w1 0 F v1 (xs ++ [⟨k, y⟩]) → W.grownBy w1 none → (∃ A L c, v1 = .slice A L c) → Kc (a.put o.dst v1) w1) :
    if Region.wanted o (yielded ops a.tmps) = true then Oper.wp Try.prog o a (W.alloc (.cells #[.int .i64 k, .string y] 90)) Kc Q else Kc (a.put o.dst undef) (W.alloc (.cells #[.int .i64 k, .string y] 90)) := by
  rw [if_pos hw]
  obtain ⟨hn, _⟩ := Kd.R_reads' HO
  obtain ⟨h0, inner, hown, hr⟩ := HO
  obtain ⟨i0, hi, hzz⟩ := Option.map_eq_some_iff.1 info90
  simp only [Prod.mk.injEq] at hzz
  obtain ⟨hz0, hz1, hz2⟩ := hzz
  have hlo : inner.length = n * 2 := by rw [hn]; exact hown.1
  have hnew : (W.alloc (.cells #[.int .i64 k, .string y] 90)).heap[W.heap.size]? = some (.cells #[.int .i64 k, .string y] 90 (0, 0)) := Array.getElem?_push_size
  have hnc : ∀ j u, [Value.int .i64 k, Value.string y][j]? = some u → (W.alloc (.cells #[.int .i64 k, .string y] 90)).cell? ((⟨W.heap.size, 0, none⟩ : Addr).add j) = some u := by
    intro j u hu
    rw [Addr.add_lit, Nat.zero_add]
    exact (blk_cell hnew j).trans (by simpa using hu)
  have hml : maxLen = 9223372036854775807 := by decide +kernel
  have h63 : n + 1 ≤ maxLen := by rw [hml]; omega
  have key : ∃ v' w', (Builtin.append_ #[84, 84] o.type #[.slice lA n n, .slice (some ⟨W.heap.size, 0, none⟩) 1 1]).run Try.prog (W.alloc (.cells #[.int .i64 k, .string y] 90)) = .ok v' w' ∧
      w'.ownsRow (W.heap.size + 1) 90 2 v' (n + 1) (inner ++ [.int .i64 k, .string y]) ∧ (W.alloc (.cells #[.int .i64 k, .string y] 90)).grownBy w' none := by
    have hsz : (W.alloc (.cells #[.int .i64 k, .string y] 90)).heap.size = W.heap.size + 1 := by simp
    cases lA with
    | some b =>
      obtain ⟨v', w', q1, q2, q3⟩ := run_append_arg_grows (P := Try.prog) (W.alloc (.cells #[.int .i64 k, .string y] 90)) 84 o.type 90 i0 _ 2 24 Try.underlying84 hi hz0 hz1 hz2 rfl (by decide) b n n inner hlo (fun j u hj => by
        have hb : (Value.slice (some b) n c).ownBlock = some b.block := rfl
        have hbo : b = ⟨b.block, 0, none⟩ := by
          rcases hown.2 with ⟨h, _⟩ | ⟨g, cap, cur, h, _⟩
          · cases h
          · injection h with h _ _; injection h with h; rw [h]
        have hc := hown.cells hb j u hj
        rw [← hbo] at hc
        have hlt := cell_lt hc
        have hq := Below.heap_alloc W (.cells #[.int .i64 k, .string y] 90) (b.add j).block hlt
        have hq2 := cell_same (w := W) (w' := W.alloc (.cells #[.int .i64 k, .string y] 90)) (a := b.add j) hq
        exact hq2.trans hc) ⟨W.heap.size, 0, none⟩ 1 1 [.int .i64 k, .string y] rfl hnc (by omega) h63 (by omega)
      rw [hsz] at q2
      exact ⟨v', w', q1, q2, q3⟩
    | none =>
      have hnil : n = 0 := by
        rcases hown.2 with ⟨h, _⟩ | ⟨g, cap, cur, h, _⟩
        · injection h
        · cases h
      subst hnil
      obtain rfl : inner = [] := List.eq_nil_of_length_eq_zero (by simpa using hlo)
      obtain ⟨v', w', q1, q2, q3, _⟩ := run_append_own (P := Try.prog) (w := W.alloc (.cells #[.int .i64 k, .string y] 90)) (W.alloc (.cells #[.int .i64 k, .string y] 90)).heap.size 84 o.type 90 i0 _ 2 24 Try.underlying84 hi hz0 hz1 hz2 rfl (by decide) (.slice none 0 0) 0 [] (World.ownsRow_nil _ _ _ _) ⟨W.heap.size, 0, none⟩ 1 1 [.int .i64 k, .string y] rfl hnc (by simp [Value.oneCell']) h63 (by omega) (Nat.le_refl _)
      rw [hsz] at q2
      exact ⟨v', w', q1, q2, q3⟩
  obtain ⟨v', w', hrun, hown', hg'⟩ := key
  have hg : W.grownBy w' none := ⟨hg'.os, hg'.tape, hg'.output, Nat.le_trans (by simp) hg'.size, fun q hq hne => (hg'.block q (by simp; omega) hne).trans (Below.heap_alloc W _ q hq)⟩
  have hat : ∃ b, v'.ownBlock = some b ∧ W.heap.size ≤ b := by
    rcases hown'.2 with ⟨h, h2⟩ | ⟨g, cap, cur, rfl, hge, _⟩
    · omega
    · exact ⟨g, rfl, by omega⟩
  have hR : Kd.R H.k90 90 w' 0 F v' (xs ++ [⟨k, y⟩]) := by
    refine Kd.R_appended (v := .slice none 0 0) (okp := fun _ => False) (W := W) (inner := inner) (cs := [.int .i64 k, .string y]) (fun q hq => by cases hq) (hr.imp_ (fun _ _ hp => H.k90.M_mono (fun q hq => ⟨hq.1, fun e => by cases e⟩) hp)) (H.k90_mkM W 0 _ ⟨k, y⟩) (fun _ hq => hq.elim) hf ?_ hg (.inr hat)
    rw [← hn]
    exact own_weaken hown' (Nat.zero_le _)
  unfold Oper.wp
  simp [execOp, ho, resolve, invoke, builtin, hs, hx, hrun, Result.andThen]
  refine h v' w' hR hg ?_
  obtain ⟨A, c', he⟩ := Kd.R_slice hR
  exact ⟨A, _, c', he⟩
def rwrites (st : St) (n : Int) (s : ByteArray) : Int × St :=
  if st.gone then (5, st)
  else if n < 0 ∨ (st.now.length : Int) ≤ n then (1, st)
  else if s.size ≠ 256 then (1, st)
  else if st.fuse = 0 then (5, { st with gone := true })
  else (0, { st with fuse := if 0 < st.fuse then st.fuse - 1 else st.fuse, loose := if hasS st.loose n then st.loose else st.loose ++ [(n, st.now.getD n.toNat ⟨#[]⟩)], now := st.now.set n.toNat s })
def fnd (L : List (Int × ByteArray)) (n : Int) (i : Nat) : Bool := (L.take i).any fun p => p.1 == n
theorem fnd_succ (L : List (Int × ByteArray)) (n : Int) (i : Nat) (h : i < L.length) : fnd L n (i + 1) = (fnd L n i || ((L.getD i (0, ⟨#[]⟩)).1 == n)) := by
  unfold fnd
  rw [List.take_add_one, List.getElem?_eq_getElem h, List.any_append]
  simp [List.getD_eq_getElem?_getD, List.getElem?_eq_getElem h]
theorem fnd_all (L : List (Int × ByteArray)) (n : Int) : fnd L n L.length = hasS L n := by
  unfold fnd hasS
  rw [List.take_of_length_le (Nat.le_refl _)]
  induction L with
  | nil => rfl
  | cons p L ih =>
    rw [List.any_cons, List.find?_cons, ih]
    cases p.1 == n <;> rfl
set_option maxHeartbeats 1000000 in
set_option maxRecDepth 100000 in
theorem RWrite.no (F : Nat → Prop) (x : Nat) (st : St) (n : Int) (s : ByteArray) (w : World) (h : RefAt F w x st) (hb : st.gone = true ∨ (st.gone = false ∧ n < 0) ∨ (st.gone = false ∧ ¬ n < 0 ∧ (st.now.length : Int) ≤ n) ∨ (st.gone = false ∧ ¬ n < 0 ∧ ¬ (st.now.length : Int) ≤ n ∧ s.size ≠ 256)) :
    Calls Try.prog 35 #[.pointer (some ⟨x, 0, none⟩), .int .i64 n, .string s] w fun e w' => e = .returned (.int .i64 (if st.gone then 5 else 1)) ∧ w = w' := by
  obtain ⟨sv, lv, hx, hs, hl, f1, hlen, _⟩ := h
  obtain ⟨A, c, rfl⟩ := Kd.R_slice hs
  have c0 : w.cell? ⟨x, 0, none⟩ = some (.slice A st.now.length c) := (blk_cell hx 0).trans rfl
  have c3 : w.cell? ⟨x, 3, none⟩ = some (.bool st.gone) := (blk_cell hx 3).trans rfl
  clear hx hs hl f1 hlen
  rcases hb with hg | ⟨hg, h1⟩ | ⟨hg, h1, h2⟩ | ⟨hg, h1, h2, h3⟩
  · rw [hg] at c3 ⊢
    clear hg
    go_enter Try.func35, Try.ntmps35
    go_wp2_with fail
    go_ret
    exact ⟨rfl, rfl⟩
  · rw [hg] at c3 ⊢
    clear hg
    go_enter Try.func35, Try.ntmps35
    go_wp2_with fail
    go_ret
    exact ⟨rfl, rfl⟩
  · rw [hg] at c3 ⊢
    clear hg
    go_enter Try.func35, Try.ntmps35
    go_wp2_with fail
    go_ret
    exact ⟨rfl, rfl⟩
  · rw [hg] at c3 ⊢
    have h4 : ((s.size : Int) != 256) = true := by simp; omega
    clear hg h3
    go_enter Try.func35, Try.ntmps35
    go_wp2_with fail
    go_ret
    exact ⟨rfl, rfl⟩
set_option maxHeartbeats 1000000 in
set_option maxRecDepth 100000 in
theorem RWrite.down (F : Nat → Prop) (x : Nat) (st : St) (n : Int) (s : ByteArray) (w : World) (h : RefAt F w x st) (hg : st.gone = false) (h1 : ¬ n < 0) (h2 : ¬ (st.now.length : Int) ≤ n) (h3 : s.size = 256) (hf : st.fuse = 0) :
    Calls Try.prog 35 #[.pointer (some ⟨x, 0, none⟩), .int .i64 n, .string s] w fun e w' => e = .returned (.int .i64 5) ∧ RefAt F w' x { st with gone := true } ∧ Fr F w w' := by
  have h0 := hid (h.gone true)
  have hF := hid h.Fx
  obtain ⟨sv, lv, hx, hs, hl, f1, hlen, _⟩ := h
  obtain ⟨A, c, rfl⟩ := Kd.R_slice hs
  have c0 : w.cell? ⟨x, 0, none⟩ = some (.slice A st.now.length c) := (blk_cell hx 0).trans rfl
  have c2 : w.cell? ⟨x, 2, none⟩ = some (.int .i64 0) := by rw [← hf]; exact (blk_cell hx 2).trans rfl
  have c3 : w.cell? ⟨x, 3, none⟩ = some (.bool false) := by rw [← hg]; exact (blk_cell hx 3).trans rfl
  have f3 := blk_frozen hx 3
  have h4 : ((s.size : Int) != 256) = false := by simp; omega
  clear hx hs hl f1 hlen hf hg h3
  go_enter Try.func35, Try.ntmps35
  go_wp2_with fail
  go_ret
  exact ⟨rfl, h0.out, (Fr.refl F w).set (p := ⟨x, 3, none⟩) hF.out _⟩
end Go.Proofs.Ytnffhdlkkfphbaa.D
