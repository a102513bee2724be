/-
  The walks of a disk's Fuse, Sync and Loose.
-/
import Derived.Test.YtnffhdlkkfphbaaD1
namespace Go.Proofs.Ytnffhdlkkfphbaa.D
set_option linter.unusedVariables false
set_option linter.unusedSimpArgs false
open Go.RowKit Go.Proofs.YtnffhdlkkfphbaaW.PrintWords Go.Proofs.YtnffhdlkkfphbaaW.PrintLast Go.Proofs.YtnffhdlkkfphbaaW.PrintMore
open Go.Lib (hid)
theorem blk_ne {w : World} {a b t1 t2 : Nat} {c1 c2 : Array Value} (h1 : w.heap[a]? = some (.cells c1 t1 (0, 0))) (h2 : w.heap[b]? = some (.cells c2 t2 (0, 0))) (h : t1 ≠ t2) : a ≠ b := by
  rintro rfl
  rw [h1] at h2
  injection h2 with h2
  injection h2 with _ h2
  exact h h2
theorem map_ne {w : World} {a b t1 : Nat} {c1 : Array Value} {L : List (Int × ByteArray)} (h1 : w.heap[a]? = some (.cells c1 t1 (0, 0))) (h2 : MapS w b L) : b ≠ a := by
  rintro rfl
  obtain ⟨D, ⟨es, clock, h3, _⟩, _⟩ := h2
  rw [h1] at h3
  cases h3
theorem Fr.refl (F : Nat → Prop) (w : World) : Fr F w w := ⟨rfl, rfl, rfl, Nat.le_refl _, fun _ _ _ => rfl⟩
theorem Fr.trans {F : Nat → Prop} {w w1 w2 : World} (h : Fr F w w1) (k : Fr F w1 w2) : Fr F w w2 :=
  ⟨k.os.trans h.os, k.tape.trans h.tape, k.output.trans h.output, Nat.le_trans h.size k.size, fun i hi hF => (k.keep i (Nat.lt_of_lt_of_le hi h.size) hF).trans (h.keep i hi hF)⟩
theorem Fr.set {F : Nat → Prop} {w w1 : World} (h : Fr F w w1) {p : Addr} (hp : F p.block) (u : Value) : Fr F w (w1.setCell p u) :=
  ⟨h.os, h.tape, h.output, by simpa using h.size, fun i hi hF => (Below.heap_setCell w1 p u i (fun e => hF (by rw [e]; exact hp))).trans (h.keep i hi hF)⟩
theorem Fr.alloc {F : Nat → Prop} {w w1 : World} (h : Fr F w w1) (o : Obj) : Fr F w (w1.alloc o) :=
  ⟨h.os, h.tape, h.output, by have := h.size; simp; omega, fun i hi hF => (Below.heap_alloc w1 o i (by have := h.size; omega)).trans (h.keep i hi hF)⟩
theorem Fr.drewN {F : Nat → Prop} {w w1 : World} (h : Fr F w w1) (n : Nat) : Fr F w (w1.drewN n) := ⟨h.os, h.tape, h.output, h.size, h.keep⟩
/-- The fuse's field, or the last one, is written. -/
theorem DiskAt.fuse {F : Nat → Prop} {w : World} {d : Nat} {st : St} (h : DiskAt F w d st) (n : Int) (hn : -1 ≤ n ∧ n ≤ 9223372036854775807) :
    DiskAt F (w.setCell ⟨d, 3, none⟩ (.int .i64 n)) d { st with fuse := n } := by
  obtain ⟨gn, gm, ov, hd, hs, hm, ho, f1, f2, f3, hl, hz, hf, hr⟩ := h
  refine ⟨gn, gm, ov, blk_set hd 3 _, blk_far hs (p := ⟨d, 3, none⟩) (blk_ne hs hd (by decide)) _, hm.kept (Below.heap_setCell w ⟨d, 3, none⟩ _ gm (map_ne hd hm)), Kd.R_set ho hd (by decide) 3 _, f1, f2, f3, hl, hz, hn, hr⟩
theorem DiskAt.gone {F : Nat → Prop} {w : World} {d : Nat} {st : St} (h : DiskAt F w d st) (b : Bool) :
    DiskAt F (w.setCell ⟨d, 4, none⟩ (.bool b)) d { st with gone := b } := by
  obtain ⟨gn, gm, ov, hd, hs, hm, ho, f1, f2, f3, hl, hz, hf, hr⟩ := h
  refine ⟨gn, gm, ov, blk_set hd 4 _, blk_far hs (p := ⟨d, 4, none⟩) (blk_ne hs hd (by decide)) _, hm.kept (Below.heap_setCell w ⟨d, 4, none⟩ _ gm (map_ne hd hm)), Kd.R_set ho hd (by decide) 4 _, f1, f2, f3, hl, hz, hf, hr⟩
theorem DiskAt.Fd {F : Nat → Prop} {w : World} {d : Nat} {st : St} (h : DiskAt F w d st) : F d := by
  obtain ⟨gn, gm, ov, hd, hs, hm, ho, f1, _⟩ := h
  exact f1
theorem DiskAt.more {F F' : Nat → Prop} {w : World} {d : Nat} {st : St} (h : DiskAt F w d st) (hF : ∀ i, F i → F' i) : DiskAt F' w d st := by
  obtain ⟨gn, gm, ov, hd, hs, hm, ho, f1, f2, f3, r⟩ := h
  exact ⟨gn, gm, ov, hd, hs, hm, Kd.R_mono ho hF, hF _ f1, hF _ f2, hF _ f3, r⟩
set_option maxRecDepth 100000 in
theorem Fuse.calls (F : Nat → Prop) (d : Nat) (st : St) (n : Int) (hn : n ≤ 9223372036854775807) (w : World) (h : DiskAt F w d st) :
    Calls Try.prog 25 #[.pointer (some ⟨d, 0, none⟩), .int .i64 n] w fun e w' => e = .returned (.tuple #[]) ∧ DiskAt F w' d { st with fuse := max (-1) n } ∧ Fr F w w' := by
  have h0 := hid h
  obtain ⟨gn, gm, ov, hd, _⟩ := h
  have c3 : w.cell? ⟨d, 3, none⟩ = some (.int .i64 st.fuse) := (blk_cell hd 3).trans rfl
  have f3 := blk_frozen hd 3
  have HM : Hid (-1 ≤ max (-1) n ∧ max (-1) n ≤ 9223372036854775807) := hid (by omega)
  clear hd
  go_enter Try.func25, Try.ntmps25
  go_wp2
  go_end0
  exact ⟨rfl, h0.out.fuse (max (-1) n) HM.out, (Fr.refl F w).set (p := ⟨d, 3, none⟩) h0.out.Fd _⟩
set_option maxRecDepth 100000 in
theorem Sync.no (F : Nat → Prop) (d : Nat) (st : St) (w : World) (h : DiskAt F w d st) (hg : st.gone = true) :
    Calls Try.prog 26 #[.pointer (some ⟨d, 0, none⟩)] w fun e w' => e = .returned (.int .i64 5) ∧ w = w' := by
  obtain ⟨gn, gm, ov, hd, _⟩ := h
  have c4 : w.cell? ⟨d, 4, none⟩ = some (.bool true) := by rw [← hg]; exact (blk_cell hd 4).trans rfl
  clear hd hg
  go_enter Try.func26, Try.ntmps26
  go_wp2
  go_ret
  exact ⟨rfl, rfl⟩
/-- The map and the row of the loose ones are new. -/
theorem DiskAt.clean {F : Nat → Prop} {w : World} {d : Nat} {st : St} (h : DiskAt F w d st) :
    DiskAt (fun i => F i ∨ w.heap.size ≤ i) (((w.setCell ⟨d, 1, none⟩ (.map (some w.heap.size))).setCell ⟨d, 2, none⟩ (.slice none 0 0)).alloc (.map #[] 0)) d { st with loose := [] } := by
  obtain ⟨gn, gm, ov, hd, hs, hm, ho, f1, f2, f3, hl, hz, hf, hr⟩ := h
  have hn := blk_ne hs hd (by decide)
  have hm1 := MapS.new ((w.setCell ⟨d, 1, none⟩ (.map (some w.heap.size))).setCell ⟨d, 2, none⟩ (.slice none 0 0))
  have hz1 : ((w.setCell ⟨d, 1, none⟩ (.map (some w.heap.size))).setCell ⟨d, 2, none⟩ (.slice none 0 0)).heap.size = w.heap.size := by simp
  rw [hz1] at hm1
  exact ⟨gn, w.heap.size, .slice none 0 0, blk_alloc (blk_set (blk_set hd 1 _) 2 _) _, blk_alloc (blk_far (blk_far hs (p := ⟨d, 1, none⟩) hn _) (p := ⟨d, 2, none⟩) hn _) _, hm1, Kd.R_nil _ _ _ _ _, .inl f1, .inl f2, .inr (Nat.le_refl _), hl, hz, hf, fun p hp => absurd hp List.not_mem_nil⟩
set_option maxRecDepth 100000 in
theorem Sync.yes (F : Nat → Prop) (d : Nat) (st : St) (w : World) (h : DiskAt F w d st) (hg : st.gone = false) :
    Calls Try.prog 26 #[.pointer (some ⟨d, 0, none⟩)] w fun e w' => e = .returned (.int .i64 0) ∧ DiskAt (fun i => F i ∨ w.heap.size ≤ i) w' d { st with loose := [] } ∧ Fr F w w' := by
  have h0 := hid h
  have HC := hid h.clean
  obtain ⟨gn, gm, ov, hd, _⟩ := h
  have c4 : w.cell? ⟨d, 4, none⟩ = some (.bool false) := by rw [← hg]; exact (blk_cell hd 4).trans rfl
  have c1 : w.cell? ⟨d, 1, none⟩ = some (.map (some gm)) := (blk_cell hd 1).trans rfl
  have c2 : w.cell? ⟨d, 2, none⟩ = some ov := (blk_cell hd 2).trans rfl
  have f1 := blk_frozen hd 1
  have f2 := blk_frozen hd 2
  have hlt := blk_lt hd
  have hne : d ≠ w.heap.size := by omega
  have hmm := @run_makeMap Try.prog
  clear hd hg
  go_enter Try.func26, Try.ntmps26
  go_wp2
  go_ret
  exact ⟨rfl, HC.out, (((Fr.refl F w).set (p := ⟨d, 1, none⟩) h0.out.Fd _).set (p := ⟨d, 2, none⟩) h0.out.Fd _).alloc _⟩
theorem reps_ints (l : List Int) : Reps (fun x cs => cs = [Value.int .i64 x]) 1 l (l.map (Value.int .i64)) := by
  refine ⟨by simp, fun j p hj => ?_⟩
  have hl : j < l.length := (List.getElem?_eq_some_iff.1 hj).1
  have e : l[j] = p := (List.getElem?_eq_some_iff.1 hj).2
  rw [Nat.mul_one, List.drop_eq_getElem_cons (by simpa using hl)]
  simp [e]
theorem row_of_owns {w : World} {base : Nat} {v : Value} {n : Nat} {l : List Int} (hn : n = l.length) (h : w.ownsRow base 3 1 v n (l.map (Value.int .i64))) : Kd.R (Kd.int .i64) 3 w base (fun _ => True) v l := by
  subst hn
  exact ⟨fun _ _ => trivial, _, h, reps_ints l⟩
theorem clone_row (base : Nat) (F : Nat → Prop) (ov : Value) (xs : List Int) (w : World) (ho : Kd.R (Kd.int .i64) 3 w base F ov xs) (hl : xs.length ≤ 100000) :
    Calls Try.prog 44 #[ov] w fun e w' => ∃ v, e = .returned v ∧ Kd.R (Kd.int .i64) 3 w' w.heap.size (fun _ => True) v xs ∧ Below w.heap.size w w' := by
  have h1 := Kd.own_of_R ho
  rcases h1.2 with ⟨rfl, h3⟩ | ⟨g, cap, cur, rfl, hg, hh, h4, h5, h6, h7⟩
  · have : xs = [] := by simpa [encs] using h3
    subst this
    refine (Try.slices_Clone_int_nil 0 0 w).mono ?_
    rintro e w' ⟨rfl, rfl⟩
    exact ⟨_, rfl, Kd.R_nil _ _ _ _ _, Below.refl _ _⟩
  · by_cases h0 : xs.length = 0
    · have : xs = [] := List.eq_nil_of_length_eq_zero h0
      subst this
      refine (Try.slices_Clone_int_zero ⟨g, 0, none⟩ cap w).mono ?_
      rintro e w' ⟨v, rfl, h8, _, h9⟩
      exact ⟨v, rfl, row_of_owns rfl h8, h9⟩
    · refine (Try.slices_Clone_int g 0 xs.length cap xs w (Nat.le_refl _) (by omega) (fun j hj => ?_)).mono ?_
      · rw [Nat.zero_add, blk_cell hh j]
        have h8 := congrArg (fun l => l[j]?) h7
        simp only [Nat.mul_one] at h8
        rw [List.getElem?_take_of_lt hj] at h8
        rw [← Array.getElem?_toList, h8]
        simp [encs, hj]
      · rintro e w' ⟨v, rfl, h8, _, h9⟩
        rw [List.take_length] at h8
        exact ⟨v, rfl, row_of_owns rfl h8, h9⟩
set_option maxRecDepth 100000 in
theorem Loose.calls (F : Nat → Prop) (d : Nat) (st : St) (w : World) (h : DiskAt F w d st) (hl : st.loose.length ≤ 100000) :
    Calls Try.prog 30 #[.pointer (some ⟨d, 0, none⟩)] w fun e w' => ∃ v, e = .returned v ∧ Kd.R (Kd.int .i64) 3 w' w.heap.size (fun _ => True) v (st.loose.map (·.1)) ∧ Below w.heap.size w w' := by
  obtain ⟨gn, gm, ov, hd, hs, hm, ho, _⟩ := h
  have c2 : w.cell? ⟨d, 2, none⟩ = some ov := (blk_cell hd 2).trans rfl
  have hll : (st.loose.map (·.1)).length = st.loose.length := List.length_map ..
  obtain ⟨xs, hxs⟩ : ∃ xs, st.loose.map (·.1) = xs := ⟨_, rfl⟩
  rw [hxs] at ho hll ⊢
  rw [← hll] at hl
  clear hd hs hm hll hxs
  have HCl : Calls Try.prog 44 #[ov] w fun e w' => ∃ v, e = .returned v ∧ Kd.R (Kd.int .i64) 3 w' w.heap.size (fun _ => True) v xs ∧ Below w.heap.size w w' := clone_row 0 F ov xs w ho hl
  have HC := hid HCl
  clear HCl ho
  go_enter Try.func30, Try.ntmps30
  go_wp2_with fail
  refine HC.out.mono ?_
  rintro e w1 ⟨v, rfl, hR, hB⟩
  replace hR := hid hR
  replace hB := hid hB
  go_wp2_with fail
  go_ret
  exact ⟨v, rfl, hR.out, hB.out⟩
end Go.Proofs.Ytnffhdlkkfphbaa.D
