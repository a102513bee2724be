/-
  The walk of a disk's Write.
-/
import Derived.Test.YtnffhdlkkfphbaaD2
import Derived.StillTailTactics
namespace Go.Proofs.Ytnffhdlkkfphbaa.D
set_option linter.unusedVariables false
set_option linter.unusedSimpArgs false
open Go.RowKit Go.Proofs.YtnffhdlkkfphbaaW.PrintWords Go.Proofs.YtnffhdlkkfphbaaW.PrintLast Go.Proofs.YtnffhdlkkfphbaaW.PrintMore
open Go.Lib (hid)
theorem Write.no (d : Nat) (n r : Int) (hr : r ≠ 0) (s : ByteArray) (w : World) (hm : Calls Try.prog 43 #[.pointer (some ⟨d, 0, none⟩), .int .i64 n] w fun e w' => e = .returned (.int .i64 r) ∧ w = w') :
    Calls Try.prog 23 #[.pointer (some ⟨d, 0, none⟩), .int .i64 n, .string s] w fun e w' => e = .returned (.int .i64 r) ∧ w = w' := by
  have q : (r != 0) = true := by simp [hr]
  go_enter Try.func23, Try.ntmps23
  go_wp2_with fail
  refine hm.mono ?_
  rintro e w' ⟨rfl, rfl⟩
  go_wp2_with fail
  go_ret
  exact ⟨rfl, rfl⟩
theorem Write.size (F : Nat → Prop) (d : Nat) (st : St) (n : Nat) (s : ByteArray) (hs : s.size ≠ 256) (w : World) (h : DiskAt F w d st) (hg : st.gone = false) (hn : n < st.now.length) :
    Calls Try.prog 23 #[.pointer (some ⟨d, 0, none⟩), .int .i64 (n : Int), .string s] w fun e w' => e = .returned (.int .i64 1) ∧ w = w' := by
  have hm := may.ok F d st n w h hg (by omega) (by omega)
  have q : ((s.size : Int) != 256) = true := by simp; omega
  clear h hg hn
  go_enter Try.func23, Try.ntmps23
  go_wp2_with fail
  refine hm.mono ?_
  rintro e w' ⟨rfl, rfl⟩
  go_wp2_with fail
  go_ret
  exact ⟨rfl, rfl⟩
theorem Write.down (F : Nat → Prop) (d : Nat) (st : St) (n : Nat) (s : ByteArray) (hs : s.size = 256) (w : World) (h : DiskAt F w d st) (hg : st.gone = false) (hn : n < st.now.length) (hf : st.fuse = 0) :
    Calls Try.prog 23 #[.pointer (some ⟨d, 0, none⟩), .int .i64 (n : Int), .string s] w fun e w' => e = .returned (.int .i64 5) ∧ DiskAt F w' d { st with gone := true } ∧ Fr F w w' := by
  have hm := may.ok F d st n w h hg (by omega) (by omega)
  have q : ((s.size : Int) != 256) = false := by simp; omega
  have h0 := hid h
  obtain ⟨gn, gm, ov, hd, _⟩ := h
  have c3 : w.cell? ⟨d, 3, none⟩ = some (.int .i64 0) := by rw [← hf]; exact (blk_cell hd 3).trans rfl
  have c4 : w.cell? ⟨d, 4, none⟩ = some (.bool false) := by rw [← hg]; exact (blk_cell hd 4).trans rfl
  have f4 := blk_frozen hd 4
  clear hd hn hf hs hg
  go_enter Try.func23, Try.ntmps23
  go_wp2_with fail
  refine hm.mono ?_
  rintro e w' ⟨rfl, rfl⟩
  go_wp2_with fail
  go_ret
  exact ⟨rfl, h0.out.gone true, (Fr.refl F w).set (p := ⟨d, 4, none⟩) h0.out.Fd _⟩
/-- A sector is written. -/
theorem DiskAt.sector {F : Nat → Prop} {w : World} {d : Nat} {st : St} (h : DiskAt F w d st) (n : Nat) (s : ByteArray) (hs : s.size ≤ 1000000000) :
    ∃ gn, F gn ∧ (∃ c, w.cell? ⟨d, 0, none⟩ = some (.slice (some ⟨gn, 0, none⟩) st.now.length c)) ∧ DiskAt F (w.setCell ⟨gn, n, none⟩ (.string s)) d { st with now := st.now.set n s } := by
  obtain ⟨gn, gm, ov, hd, hsx, hm, ho, f1, f2, f3, hl, hz, hf, hr⟩ := h
  refine ⟨gn, f2, ⟨_, (blk_cell hd 0).trans rfl⟩, gn, gm, ov, ?_, ?_, hm.kept (Below.heap_setCell w ⟨gn, n, none⟩ _ gm (map_ne hsx hm)), Kd.R_set ho hsx (by decide) n _, f1, f2, f3, ?_, ?_, hf, ?_⟩
  · rw [List.length_set]
    exact blk_far hd (p := ⟨gn, n, none⟩) (blk_ne hd hsx (by decide)) _
  · have := blk_set hsx n (.string s)
    rw [List.map_set]
    simpa using this
  · rw [List.length_set]; exact hl
  · intro x hx
    rcases List.mem_or_eq_of_mem_set hx with h | h
    · exact hz x h
    · rw [h]; exact hs
  · rw [List.length_set]; exact hr
theorem Write.again (F : Nat → Prop) (d : Nat) (st : St) (n : Nat) (s : ByteArray) (hs : s.size = 256) (w : World) (h : DiskAt F w d st) (hg : st.gone = false) (hn : n < st.now.length) (hf : st.fuse ≠ 0) (hl : hasS st.loose (n : Int) = true) :
    Calls Try.prog 23 #[.pointer (some ⟨d, 0, none⟩), .int .i64 (n : Int), .string s] w fun e w' => e = .returned (.int .i64 0) ∧ DiskAt F w' d { st with fuse := max (-1) (st.fuse - 1), now := st.now.set n s } ∧ Fr F w w' := by
  have hm := may.ok F d st n w h hg (by omega) (by omega)
  have q : ((s.size : Int) != 256) = false := by simp; omega
  have hfb : -1 ≤ st.fuse ∧ st.fuse ≤ 9223372036854775807 := by obtain ⟨gn, gm, ov, _, _, _, _, _, _, _, _, _, hf, _⟩ := h; exact hf
  have h1 := h.fuse (max (-1) (st.fuse - 1)) (by omega)
  obtain ⟨gn2, fg, ⟨cc, hc⟩, h2⟩ := h1.sector n s (by omega)
  obtain ⟨gn, gm, ov, hd, hsx, hmp, _, f1, _, _, hlen, _⟩ := h
  have c0 : w.cell? ⟨d, 0, none⟩ = some (.slice (some ⟨gn, 0, none⟩) st.now.length st.now.length) := (blk_cell hd 0).trans rfl
  have c1 : w.cell? ⟨d, 1, none⟩ = some (.map (some gm)) := (blk_cell hd 1).trans rfl
  have c3 : w.cell? ⟨d, 3, none⟩ = some (.int .i64 st.fuse) := (blk_cell hd 3).trans rfl
  have f3 := blk_frozen hd 3
  have fs := blk_frozen hsx n
  have cs : w.cell? ⟨gn, n, none⟩ = some (.string (st.now.getD n ⟨#[]⟩)) := (blk_cell hsx n).trans (strs_at _ _ hn)
  have hne := blk_ne hsx hd (by decide)
  have hlk := (hmp.kept (Below.heap_setCell w ⟨d, 3, none⟩ (.int .i64 (max (-1) (st.fuse - 1))) gm (map_ne hd hmp))).look_ok (k := (n : Int)) ⟨by omega, by omega⟩
  rw [hl] at hlk
  have hge : gn2 = gn := by
    have e0 : some (Value.slice (some ⟨gn2, 0, none⟩) st.now.length cc) = some (Value.slice (some ⟨gn, 0, none⟩) st.now.length st.now.length) :=
      hc.symm.trans ((blk_cell (blk_set hd 3 (.int .i64 (max (-1) (st.fuse - 1)))) 0).trans rfl)
    exact congrArg (fun v => match v with | some (Value.slice (some a) _ _) => a.block | _ => 0) e0
  subst hge
  have HD := hid (And.intro h2 (And.intro f1 fg))
  have hfq : (st.fuse == 0) = false := by simp [hf]
  have q0 : (0 : Int) ≤ (n : Int) := by omega
  have q1 : (n : Int) < (st.now.length : Int) := by omega
  have q2 : st.now.length ≤ 1000 := hlen.2
  clear h1 h2 hc hd hsx hmp hlen hl hg hf hn hs f1 fg
  generalize st.now.getD n ⟨#[]⟩ = x at *
  generalize getS st.loose (n : Int) = y at *
  generalize st.now.length = m at *
  generalize st.fuse = fu at *
  go_enter Try.func23, Try.ntmps23
  go_wp2_with fail
  refine hm.mono ?_
  rintro e w' ⟨rfl, rfl⟩
  go_wp2_with fail
  go_ret
  exact ⟨rfl, HD.out.1, ((Fr.refl F w).set (p := ⟨d, 3, none⟩) HD.out.2.1 _).set (p := ⟨gn2, n, none⟩) HD.out.2.2 _⟩
end Go.Proofs.Ytnffhdlkkfphbaa.D
