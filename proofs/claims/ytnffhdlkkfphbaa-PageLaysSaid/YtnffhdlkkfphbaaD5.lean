/-
  The walk of a disk's Write of a sector for the first time.
  The walk of a disk's Write of a sector for the first time.
-/
import Derived.Test.YtnffhdlkkfphbaaD3
import Derived.StillTailTactics
import Derived.BigFrame
namespace Go.Proofs.Ytnffhdlkkfphbaa.D
set_option linter.unusedVariables false
set_option linter.unusedSimpArgs false
open Go.RowKit Go.Proofs.YtnffhdlkkfphbaaW.PrintWords Go.Proofs.YtnffhdlkkfphbaaW.PrintLast Go.Proofs.YtnffhdlkkfphbaaW.PrintMore
open Go.Lib (hid)
theorem still_tail {P : Program} {id : Nat} {Q : Exit → Act → World → Prop} {a : Act} {w : World} {l : List Oper} (n : Nat) (hm : P.follows .mixedOrders = true) (hB : Region.lexTailB .any l.toArray n = true)
    (h : wpStill P l.toArray w.drew (fun a' => wpList P l.toArray Q (l.drop n) a' w.drew) (l.take n) a) : (Code.region id l.toArray true).wp P Q a w := wp_region_still_tail n hm hB h
theorem blk_row {w w3 : World} {gn t c : Nat} {cells : Array Value} (h : w.heap[gn]? = some (.cells cells t (0, 0))) {ov : Value} {F : Nat → Prop} {xs : List Int} (ho : Kd.R (Kd.int .i64) 3 w 0 F ov xs) (ht : 3 ≠ t) (hg : w.grownBy w3 ov.ownBlock) :
    w3.heap[gn]? = some (.cells cells t (0, 0)) := by
  refine (hg.block gn (blk_lt h) (fun e => ?_)).trans h
  exact ((Kd.R_types ho h (fun q hq => by cases hq with | head => exact ht | tail _ h => cases h)).1 gn e.symm).2 rfl
theorem map_row {w w3 : World} {gm : Nat} {L : List (Int × ByteArray)} (h : MapS w gm L) {ov : Value} {F : Nat → Prop} {xs : List Int} (ho : Kd.R (Kd.int .i64) 3 w 0 F ov xs) (hg : w.grownBy w3 ov.ownBlock) : MapS w3 gm L := by
  refine h.kept (hg.block gm h.lt (fun e => ?_))
  obtain ⟨_, _, _, q, _, cells, hc⟩ := (Kd.R_bound ho).1 gm e.symm
  exact map_ne hc h rfl
/-- The number of a sector that was not loose has been appended to the order. -/
theorem first_fin {F F' : Nat → Prop} {w2 w3 : World} {d gn gm n : Nat} {ov v1 : Value} {st : St} {x : ByteArray} {fu : Int}
    (hd : w2.heap[d]? = some (.cells #[.slice (some ⟨gn, 0, none⟩) st.now.length st.now.length, .map (some gm), ov, .int .i64 fu, .bool st.gone] 80 (0, 0)))
    (hsx : w2.heap[gn]? = some (.cells (st.now.map Value.string).toArray 9 (0, 0))) (hm : MapS w2 gm (st.loose ++ [((n : Int), x)])) (ho : Kd.R (Kd.int .i64) 3 w2 0 F ov (st.loose.map (·.1)))
    (f1 : F d) (f2 : F gn) (f3 : F gm) (hl : 0 < st.now.length ∧ st.now.length ≤ 1000) (hz : ∀ s ∈ st.now, s.size ≤ 1000000000) (hf : -1 ≤ fu ∧ fu ≤ 9223372036854775807) (hr : ∀ p ∈ st.loose, 0 ≤ p.1 ∧ p.1 < st.now.length)
    (hn : n < st.now.length) (hF : ∀ i, F i → F' i) (hR : Kd.R (Kd.int .i64) 3 w3 0 F' v1 (st.loose.map (·.1) ++ [(n : Int)])) (hg : w2.grownBy w3 ov.ownBlock) :
    w3.heap[d]? = some (.cells #[.slice (some ⟨gn, 0, none⟩) st.now.length st.now.length, .map (some gm), ov, .int .i64 fu, .bool st.gone] 80 (0, 0)) ∧ w3.heap[gn]? = some (.cells (st.now.map Value.string).toArray 9 (0, 0)) ∧
    DiskAt F' (w3.setCell ⟨d, 2, none⟩ v1) d { st with fuse := fu, loose := st.loose ++ [((n : Int), x)] } := by
  have hd3 := blk_row (c := 0) hd ho (by decide) hg
  have hs3 := blk_row (c := 0) hsx ho (by decide) hg
  have hm3 := map_row hm ho hg
  have hne := blk_ne hs3 hd3 (by decide)
  refine ⟨hd3, hs3, gn, gm, v1, blk_set hd3 2 _, blk_far hs3 (p := ⟨d, 2, none⟩) hne _, hm3.kept (Below.heap_setCell w3 ⟨d, 2, none⟩ _ gm (map_ne hd3 hm3)), ?_, hF _ f1, hF _ f2, hF _ f3, hl, hz, hf, ?_⟩
  · rw [List.map_append]
    exact Kd.R_set hR hd3 (by decide) 2 _
  · intro p hp
    rcases List.mem_append.1 hp with hp | hp
    · exact hr p hp
    · rw [List.mem_singleton.1 hp]
      exact ⟨by show (0 : Int) ≤ n; omega, by show (n : Int) < (st.now.length : Int); omega⟩
theorem Fr.grown {F : Nat → Prop} {w w1 w2 : World} {row : Option Nat} (h : Fr F w w1) (hg : w1.grownBy w2 row) (hr : ∀ k, row = some k → F k) : Fr F w w2 :=
  ⟨hg.os.trans h.os, hg.tape.trans h.tape, hg.output.trans h.output, Nat.le_trans h.size hg.size, fun i hi hF => (hg.block i (Nat.lt_of_lt_of_le hi h.size) (fun e => hF (hr i e.symm))).trans (h.keep i hi hF)⟩
theorem Fr.more {F F' : Nat → Prop} {w w1 : World} (h : Fr F w w1) (hF : ∀ i, F i → F' i) : Fr F' w w1 := ⟨h.os, h.tape, h.output, h.size, fun i hi hn => h.keep i hi (fun hf => hn (hF i hf))⟩
theorem getD_mem (xs : List ByteArray) (n : Nat) (h : n < xs.length) : xs.getD n ⟨#[]⟩ ∈ xs := by simp [h]
theorem info3 : (Try.prog.info? 3).map (fun i => (i.zero, i.size, i.bytes)) = some (some (.int .i64 0), 1, 8) := by kernel_rfl
set_option maxRecDepth 100000 in
theorem Write.first (F : Nat → Prop) (d : Nat) (st : St) (n : Nat) (s : ByteArray) (hs : s.size = 256) (w : World) (h : DiskAt F w d st) (hg : st.gone = false) (hn : n < st.now.length) (hf : st.fuse ≠ 0) (hl : hasS st.loose (n : Int) = false) (hll : st.loose.length ≤ 100000) :
    Calls Try.prog 23 #[.pointer (some ⟨d, 0, none⟩), .int .i64 (n : Int), .string s] w fun e w' => e = .returned (.int .i64 0) ∧ DiskAt (fun i => F i ∨ w.heap.size ≤ i) w' d { st with fuse := max (-1) (st.fuse - 1), loose := st.loose ++ [((n : Int), st.now.getD n ⟨#[]⟩)], now := st.now.set n s } ∧ Fr (fun i => F i ∨ w.heap.size ≤ i) w w' := by
  have hm := may.ok F d st n w h hg (by omega) (by omega)
  have q : ((s.size : Int) != 256) = false := by simp; omega
  have hfb : -1 ≤ st.fuse ∧ st.fuse ≤ 9223372036854775807 := by obtain ⟨gn, gm, ov, _, _, _, _, _, _, _, _, _, hf, _⟩ := h; exact hf
  have h1 := h.fuse (max (-1) (st.fuse - 1)) (by omega)
  obtain ⟨gn, gm, ov, hd, hsx, hmp, ho, f1, f2, f3, hlen, hz, _, hr⟩ := h
  have hne := blk_ne hsx hd (by decide)
  have hlk := (hmp.kept (Below.heap_setCell w ⟨d, 3, none⟩ (.int .i64 (max (-1) (st.fuse - 1))) gm (map_ne hd hmp))).look_ok (k := (n : Int)) ⟨by omega, by omega⟩
  rw [hl] at hlk
  have cs : w.cell? ⟨gn, n, none⟩ = some (.string (st.now.getD n ⟨#[]⟩)) := (blk_cell hsx n).trans (strs_at _ _ hn)
  obtain ⟨w2, hup, hm2, ht, hz2⟩ := (hmp.kept (w' := (w.setCell ⟨d, 3, none⟩ (.int .i64 (max (-1) (st.fuse - 1)))).drew) (Below.heap_setCell w ⟨d, 3, none⟩ (.int .i64 (max (-1) (st.fuse - 1))) gm (map_ne hd hmp))).put (k := (n : Int)) ⟨by omega, by omega⟩ (st.now.getD n ⟨#[]⟩) (by have := hz _ (getD_mem st.now n hn); omega) (by omega) hl
  have c0 : w.cell? ⟨d, 0, none⟩ = some (.slice (some ⟨gn, 0, none⟩) st.now.length st.now.length) := (blk_cell hd 0).trans rfl
  have c1 : w.cell? ⟨d, 1, none⟩ = some (.map (some gm)) := (blk_cell hd 1).trans rfl
  have c3 : w.cell? ⟨d, 3, none⟩ = some (.int .i64 st.fuse) := (blk_cell hd 3).trans rfl
  have f3' := blk_frozen hd 3
  have fs := blk_frozen hsx n
  have hfq : (st.fuse == 0) = false := by simp [hf]
  have q0 : (0 : Int) ≤ (n : Int) := by omega
  have q1 : (n : Int) < (st.now.length : Int) := by omega
  have q2 : st.now.length ≤ 1000 := hlen.2
  have hd1 : (w.setCell ⟨d, 3, none⟩ (.int .i64 (max (-1) (st.fuse - 1)))).drew.heap[d]? = some (.cells #[.slice (some ⟨gn, 0, none⟩) st.now.length st.now.length, .map (some gm), ov, .int .i64 (max (-1) (st.fuse - 1)), .bool st.gone] 80 (0, 0)) := blk_set hd 3 _
  have hs1 : (w.setCell ⟨d, 3, none⟩ (.int .i64 (max (-1) (st.fuse - 1)))).drew.heap[gn]? = some (.cells (st.now.map Value.string).toArray 9 (0, 0)) := blk_far hsx (p := ⟨d, 3, none⟩) hne _
  have ho1 : Kd.R (Kd.int .i64) 3 (w.setCell ⟨d, 3, none⟩ (.int .i64 (max (-1) (st.fuse - 1)))).drew 0 F ov (st.loose.map (·.1)) := Kd.R_move (Kd.R_set ho hd (by decide) 3 _) (fun _ _ => rfl)
  have hm1 : MapS (w.setCell ⟨d, 3, none⟩ (.int .i64 (max (-1) (st.fuse - 1)))).drew gm st.loose := hmp.kept (Below.heap_setCell w ⟨d, 3, none⟩ (.int .i64 (max (-1) (st.fuse - 1))) gm (map_ne hd hmp))
  have hd2 := (ht.block d (blk_lt hd1) (fun e => map_ne hd1 hm1 (Option.some.inj e).symm)).trans hd1
  have hsx2 := (ht.block gn (blk_lt hs1) (fun e => map_ne hs1 hm1 (Option.some.inj e).symm)).trans hs1
  have ho2 : Kd.R (Kd.int .i64) 3 w2 0 F ov (st.loose.map (·.1)) := Kd.R_mono (Kd.R_grown (Kd.R_bound ho1) ht (fun k hk e => by
    obtain ⟨_, _, _, q, _, cells, hc⟩ := hk
    exact map_ne hc hm1 (Option.some.inj e).symm)) (fun _ hk => hk.1)
  have hsz := hid (show w2.heap.size = w.heap.size from hz2.trans (by show (w.setCell ⟨d, 3, none⟩ (.int .i64 (max (-1) (st.fuse - 1)))).heap.size = _; simp))
  have hFr : Fr F w w2 := (Fr.drewN ((Fr.refl F w).set (p := ⟨d, 3, none⟩) f1 _) 1).grown (w2 := w2) ht (fun k hk => by injection hk with hk; subst hk; exact f3)
  have HFin := hid (fun v1 w3 => @first_fin F (fun i => F i ∨ w.heap.size ≤ i) w2 w3 d gn gm n ov v1 st (st.now.getD n ⟨#[]⟩) (max (-1) (st.fuse - 1)) hd2 hsx2 hm2 ho2 f1 f2 f3 hlen hz (by omega) hr hn (fun _ h => .inl h))
  have HR := hid (Kd.R_mono (ok' := fun i => F i ∨ w.heap.size ≤ i) ho2 (fun _ h => .inl h))
  have HF := hid (And.intro hFr (And.intro ho2.1 (And.intro f1 f2)))
  have HX := hid (strs_at st.now n hn)
  have HSZ := hid (show s.size ≤ 1000000000 by omega)
  have hlm : Hid ((st.loose.map (·.1)).length ≤ 100000) := hid (by rw [List.length_map]; exact hll)
  have k0 : w2.cell? ⟨d, 0, none⟩ = some (.slice (some ⟨gn, 0, none⟩) st.now.length st.now.length) := (blk_cell hd2 0).trans rfl
  have k2 : w2.cell? ⟨d, 2, none⟩ = some ov := (blk_cell hd2 2).trans rfl
  have kf2 := blk_frozen hd2 2
  clear h1 hd hsx hmp hlen hl hg hf hn hs f1 f2 f3 hm2 ht hz2 hz hr ho hd2 hsx2 ho2 hd1 hs1 ho1 hm1 hFr hll
  generalize st.now.getD n ⟨#[]⟩ = x at *
  generalize getS st.loose (n : Int) = y at *
  generalize st.now.length = m at *
  generalize st.fuse = fu at *
  go_enter Try.func23, Try.ntmps23
  go_wp2_with fail
  refine hm.mono ?_
  rintro e w' ⟨rfl, rfl⟩
  go_upto_region 12 with fail
  refine still_tail 12 (by kernel_rfl) (by kernel_rfl) ?_
  simp only [List.take_succ_cons, List.take_zero, List.drop_succ_cons, List.drop_zero]
  repeat still_step
  refine wpStill_nil ?_
  go_step
  go_upto_region 13 with fail
  go_wp2_with ((with_reducible refine gate_builtin (b := .append) rfl ?_); refine Hid.out ?_)
  refine hid ?_
  refine Kd.R_append (Kd.int .i64) (w0 := w2) 0 (by rfl) (.tmp 63) (.tmp 65) 51 3 (.int .i64 0) 8 rfl Try.underlying51 info3 rfl (by decide) (by omega) _ (st.loose.map (·.1)) (n : Int) [.int .i64 n] (fun i => F i ∨ w.heap.size ≤ i) (fun _ => False) rfl rfl ?aP (fun _ hk => hk.elim) ?aF ?aO ?aB ?aS ?aL ?_
  case aP => exact rfl
  case aB => exact Below.refl 0 w2
  case aF => exact (fun k hk => .inr (hsz.out ▸ hk))
  case aO => exact HR.out
  case aS => omega
  case aL => have := hlm.out; omega
  intro v1 w3 hR hb hg hat
  obtain ⟨hd3, hs3, HD3⟩ := HFin.out v1 w3 hR hg
  obtain ⟨gn2, fg, ⟨cc, hc⟩, HS⟩ := HD3.sector n s HSZ.out
  have hge : gn2 = gn :=
    congrArg (fun v => match v with | some (Value.slice (some a) _ _) => a.block | _ => 0) (hc.symm.trans ((blk_cell (blk_set hd3 2 v1) 0).trans rfl))
  subst hge
  have j0 : w3.cell? ⟨d, 0, none⟩ = some (.slice (some ⟨gn2, 0, none⟩) m m) := (blk_cell hd3 0).trans rfl
  have j2 : w3.cell? ⟨d, 2, none⟩ = some ov := (blk_cell hd3 2).trans rfl
  have jf2 := blk_frozen hd3 2
  have js : w3.cell? ⟨gn2, n, none⟩ = some (.string x) := (blk_cell hs3 n).trans HX.out
  have jfs := blk_frozen hs3 n
  have HZ := hid (And.intro HS ((((HF.out.1.more (F' := fun i => F i ∨ w.heap.size ≤ i) (fun _ h => .inl h)).grown hg (fun k hk => .inl (HF.out.2.1 k hk))).set (p := ⟨d, 2, none⟩) (.inl HF.out.2.2.1) v1).set (p := ⟨gn2, n, none⟩) (.inl HF.out.2.2.2) (.string s)))
  obtain ⟨A, c, L1, he⟩ : ∃ A c L1, v1 = .slice A L1 c := by
    obtain ⟨A, c, he, _⟩ := Kd.R_reads hR
    exact ⟨_, _, _, he⟩
  clear HFin HR HF HX HSZ hlm hsz hR hb hg hat hd3 hs3 HD3 fg hc HS hup hlk hm c0 c1 c3 cs k0 k2 kf2 f3' fs
  subst he
  go_wp2_with fail
  go_ret
  exact ⟨rfl, HZ.out.1, HZ.out.2⟩
end Go.Proofs.Ytnffhdlkkfphbaa.D
