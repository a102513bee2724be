/-
  A disk in memory; the walks of its methods that read.
  The walks of a disk's Fuse, Sync and Loose.
  The walk of a disk's Write.
-/
import Derived.Test.YtnffhdlkkfphbaaD0
import Derived.Test.YtnffhdlkkfphbaaWWords
import Derived.Test.YtnffhdlkkfphbaaWLast
import Derived.Test.YtnffhdlkkfphbaaWMore
import Derived.WalkSpells
import Derived.WalkLawsBesides
import Derived.RegionTactic
import Derived.ChangeAlike
import Derived.BigRegion
import Derived.Handy
import Derived.StillTailTactics
namespace Go.Proofs.Ytnffhdlkkfphbaa.D
set_option linter.unusedVariables false
set_option linter.unusedSimpArgs false
open Go.RowKit Go.Proofs.YtnffhdlkkfphbaaW.PrintWords Go.Proofs.YtnffhdlkkfphbaaW.PrintLast Go.Proofs.YtnffhdlkkfphbaaW.PrintMore
open Go.Lib (hid)
/-- What a disk says: its sectors, the loose ones in their order with what they had, its fuse; is the power gone? -/
structure St where
  now : List ByteArray
  loose : List (Int × ByteArray)
  fuse : Int
  gone : Bool
/-- A disk's memory: its block d, a row of sectors, a map, a row of the loose ones: all of them among F. -/
def DiskAt (F : Nat → Prop) (w : World) (d : Nat) (st : St) : Prop :=
  ∃ gn gm ov, w.heap[d]? = some (.cells #[.slice (some ⟨gn, 0, none⟩) st.now.length st.now.length, .map (some gm), ov, .int .i64 st.fuse, .bool st.gone] 80 (0, 0)) ∧
    w.heap[gn]? = some (.cells (st.now.map Value.string).toArray 9 (0, 0)) ∧ MapS w gm st.loose ∧ Kd.R (Kd.int .i64) 3 w 0 F ov (st.loose.map (·.1)) ∧
    F d ∧ F gn ∧ F gm ∧ (0 < st.now.length ∧ st.now.length ≤ 1000) ∧ (∀ s ∈ st.now, s.size ≤ 1000000000) ∧ (-1 ≤ st.fuse ∧ st.fuse ≤ 9223372036854775807) ∧
    (∀ p ∈ st.loose, 0 ≤ p.1 ∧ p.1 < st.now.length)
/-- What lies beside F stays. -/
structure Fr (F : Nat → Prop) (w w' : World) : Prop where
  os : w'.os = w.os
  tape : w'.tape = w.tape
  output : w'.output = w.output
  size : w.heap.size ≤ w'.heap.size
  keep : ∀ i, i < w.heap.size → ¬ F i → w'.heap[i]? = w.heap[i]?
theorem strs_at (xs : List ByteArray) (i : Nat) (h : i < xs.length) : ((xs.map Value.string).toArray)[i]? = some (.string (xs.getD i ⟨#[]⟩)) := by simp [h]
def inR (st : St) (n : Int) : Prop := 0 ≤ n ∧ n < st.now.length
set_option maxRecDepth 100000 in
theorem may.gone_ (F : Nat → Prop) (d : Nat) (st : St) (n : Int) (w : World) (h : DiskAt F w d st) (hg : st.gone = true) :
    Calls Try.prog 43 #[.pointer (some ⟨d, 0, none⟩), .int .i64 n] w fun e w' => e = .returned (.int .i64 5) ∧ w = w' := by
  obtain ⟨gn, gm, ov, hd, _⟩ := h
  have c4 : w.cell? ⟨d, 4, none⟩ = some (.bool true) := by rw [← hg]; exact (blk_cell hd 4).trans rfl
  clear hd hg
  go_enter Try.func43, Try.ntmps43
  go_wp2
  go_ret
  exact ⟨rfl, rfl⟩
set_option maxRecDepth 100000 in
theorem may.low (F : Nat → Prop) (d : Nat) (st : St) (n : Int) (w : World) (h : DiskAt F w d st) (hg : st.gone = false) (hn : n < 0) :
    Calls Try.prog 43 #[.pointer (some ⟨d, 0, none⟩), .int .i64 n] w fun e w' => e = .returned (.int .i64 1) ∧ w = w' := by
  obtain ⟨gn, gm, ov, hd, _⟩ := h
  have c4 : w.cell? ⟨d, 4, none⟩ = some (.bool false) := by rw [← hg]; exact (blk_cell hd 4).trans rfl
  clear hd hg
  go_enter Try.func43, Try.ntmps43
  go_wp2
  go_ret
  exact ⟨rfl, rfl⟩
set_option maxRecDepth 100000 in
theorem may.high (F : Nat → Prop) (d : Nat) (st : St) (n : Int) (w : World) (h : DiskAt F w d st) (hg : st.gone = false) (hn : 0 ≤ n) (hn2 : ¬ n < (st.now.length : Int)) :
    Calls Try.prog 43 #[.pointer (some ⟨d, 0, none⟩), .int .i64 n] w fun e w' => e = .returned (.int .i64 1) ∧ w = w' := by
  obtain ⟨gn, gm, ov, hd, _, _, _, _, _, _, hl, _⟩ := h
  have c4 : w.cell? ⟨d, 4, none⟩ = some (.bool false) := by rw [← hg]; exact (blk_cell hd 4).trans rfl
  have c0 : w.cell? ⟨d, 0, none⟩ = some (.slice (some ⟨gn, 0, none⟩) st.now.length st.now.length) := (blk_cell hd 0).trans rfl
  have hl2 := hl.2
  clear hd hg hl
  generalize st.now.length = m at *
  have hn3 : (m : Int) ≤ n := by omega
  go_enter Try.func43, Try.ntmps43
  go_wp2
  go_ret
  exact ⟨rfl, rfl⟩
set_option maxRecDepth 100000 in
theorem may.ok (F : Nat → Prop) (d : Nat) (st : St) (n : Int) (w : World) (h : DiskAt F w d st) (hg : st.gone = false) (hn : 0 ≤ n) (hn2 : n < (st.now.length : Int)) :
    Calls Try.prog 43 #[.pointer (some ⟨d, 0, none⟩), .int .i64 n] w fun e w' => e = .returned (.int .i64 0) ∧ w = w' := by
  obtain ⟨gn, gm, ov, hd, _, _, _, _, _, _, hl, _⟩ := h
  have c4 : w.cell? ⟨d, 4, none⟩ = some (.bool false) := by rw [← hg]; exact (blk_cell hd 4).trans rfl
  have c0 : w.cell? ⟨d, 0, none⟩ = some (.slice (some ⟨gn, 0, none⟩) st.now.length st.now.length) := (blk_cell hd 0).trans rfl
  have hl2 := hl.2
  clear hd hg hl
  generalize st.now.length = m at *
  go_enter Try.func43, Try.ntmps43
  go_wp2
  go_ret
  exact ⟨rfl, rfl⟩
set_option maxRecDepth 100000 in
theorem Up.calls (F : Nat → Prop) (d : Nat) (st : St) (w : World) (h : DiskAt F w d st) :
    Calls Try.prog 27 #[.pointer (some ⟨d, 0, none⟩)] w fun e w' => e = .returned (.bool (!st.gone)) ∧ w = w' := by
  obtain ⟨gn, gm, ov, hd, _⟩ := h
  have c4 : w.cell? ⟨d, 4, none⟩ = some (.bool st.gone) := (blk_cell hd 4).trans rfl
  clear hd
  generalize st.gone = g at *
  go_enter Try.func27, Try.ntmps27
  go_wp2
  go_ret
  exact ⟨rfl, rfl⟩
set_option maxRecDepth 100000 in
theorem Size.calls (F : Nat → Prop) (d : Nat) (st : St) (w : World) (h : DiskAt F w d st) :
    Calls Try.prog 49 #[.pointer (some ⟨d, 0, none⟩)] w fun e w' => e = .returned (.int .i64 (st.now.length : Int)) ∧ w = w' := by
  obtain ⟨gn, gm, ov, hd, _⟩ := h
  have c0 : w.cell? ⟨d, 0, none⟩ = some (.slice (some ⟨gn, 0, none⟩) st.now.length st.now.length) := (blk_cell hd 0).trans rfl
  clear hd
  generalize st.now.length = m at *
  go_enter Try.func49, Try.ntmps49
  go_wp2
  go_ret
  exact ⟨rfl, rfl⟩
set_option maxRecDepth 100000 in
theorem Read.ok (F : Nat → Prop) (d : Nat) (st : St) (n : Nat) (w : World) (h : DiskAt F w d st) (hg : st.gone = false) (hn2 : n < st.now.length) :
    Calls Try.prog 24 #[.pointer (some ⟨d, 0, none⟩), .int .i64 (n : Int)] w fun e w' => e = .returned (.tuple #[.string (st.now.getD n ⟨#[]⟩), .int .i64 0]) ∧ w = w' := by
  have hm := may.ok F d st n w h hg (by omega) (by omega)
  obtain ⟨gn, gm, ov, hd, hs, _, _, _, _, _, hl, _⟩ := h
  have c0 : w.cell? ⟨d, 0, none⟩ = some (.slice (some ⟨gn, 0, none⟩) st.now.length st.now.length) := (blk_cell hd 0).trans rfl
  have cn : w.cell? ⟨gn, n, none⟩ = some (.string (st.now.getD n ⟨#[]⟩)) := (blk_cell hs n).trans (strs_at _ _ hn2)
  have hl2 := hl.2
  have q0 : (0 : Int) ≤ (n : Int) := by omega
  have q1 : (n : Int) < (st.now.length : Int) := by omega
  clear hd hs hl hg
  generalize st.now.getD n ⟨#[]⟩ = x at *
  generalize st.now.length = m at *
  go_enter Try.func24, Try.ntmps24
  go_wp2_with fail
  refine hm.mono ?_
  rintro e w' ⟨rfl, rfl⟩
  go_wp2_with fail
  go_ret2
  exact ⟨rfl, rfl⟩
theorem Read.no (F : Nat → Prop) (d : Nat) (st : St) (n r : Int) (hr : r ≠ 0) (w : World) (hm : Calls Try.prog 43 #[.pointer (some ⟨d, 0, none⟩), .int .i64 n] w fun e w' => e = .returned (.int .i64 r) ∧ w = w') :
    Calls Try.prog 24 #[.pointer (some ⟨d, 0, none⟩), .int .i64 n] w fun e w' => e = .returned (.tuple #[.string ⟨#[]⟩, .int .i64 r]) ∧ w = w' := by
  have q : (r != 0) = true := by simp [hr]
  go_enter Try.func24, Try.ntmps24
  go_wp2_with fail
  refine hm.mono ?_
  rintro e w' ⟨rfl, rfl⟩
  go_wp2_with fail
  go_ret2
  exact ⟨rfl, rfl⟩
theorem blk_ne {w : World} {a b t1 t2 : Nat} {c1 c2 : Array Value} (h1 : w.heap[a]? = some (.cells c1 t1 (0, 0))) (h2 : w.heap[b]? = some (.cells c2 t2 (0, 0))) (h : t1 ≠ t2) : a ≠ b := by
  rintro rfl
  rw [h1] at h2
  injection h2 with h2
  injection h2 with _ h2
  exact h h2
theorem map_ne {w : World} {a b t1 : Nat} {c1 : Array Value} {L : List (Int × ByteArray)} (h1 : w.heap[a]? = some (.cells c1 t1 (0, 0))) (h2 : MapS w b L) : b ≠ a := by
  rintro rfl
  obtain ⟨D, ⟨es, clock, h3, _⟩, _⟩ := h2
  rw [h1] at h3
  cases h3
theorem Fr.refl (F : Nat → Prop) (w : World) : Fr F w w := ⟨rfl, rfl, rfl, Nat.le_refl _, fun _ _ _ => rfl⟩
theorem Fr.trans {F : Nat → Prop} {w w1 w2 : World} (h : Fr F w w1) (k : Fr F w1 w2) : Fr F w w2 :=
  ⟨k.os.trans h.os, k.tape.trans h.tape, k.output.trans h.output, Nat.le_trans h.size k.size, fun i hi hF => (k.keep i (Nat.lt_of_lt_of_le hi h.size) hF).trans (h.keep i hi hF)⟩
theorem Fr.set {F : Nat → Prop} {w w1 : World} (h : Fr F w w1) {p : Addr} (hp : F p.block) (u : Value) : Fr F w (w1.setCell p u) :=
  ⟨h.os, h.tape, h.output, by simpa using h.size, fun i hi hF => (Below.heap_setCell w1 p u i (fun e => hF (by rw [e]; exact hp))).trans (h.keep i hi hF)⟩
theorem Fr.alloc {F : Nat → Prop} {w w1 : World} (h : Fr F w w1) (o : Obj) : Fr F w (w1.alloc o) :=
  ⟨h.os, h.tape, h.output, by have := h.size; simp; omega, fun i hi hF => (Below.heap_alloc w1 o i (by have := h.size; omega)).trans (h.keep i hi hF)⟩
theorem Fr.drewN {F : Nat → Prop} {w w1 : World} (h : Fr F w w1) (n : Nat) : Fr F w (w1.drewN n) := ⟨h.os, h.tape, h.output, h.size, h.keep⟩
/-- The fuse's field, or the last one, is written. -/
theorem DiskAt.fuse {F : Nat → Prop} {w : World} {d : Nat} {st : St} (h : DiskAt F w d st) (n : Int) (hn : -1 ≤ n ∧ n ≤ 9223372036854775807) :
    DiskAt F (w.setCell ⟨d, 3, none⟩ (.int .i64 n)) d { st with fuse := n } := by
  obtain ⟨gn, gm, ov, hd, hs, hm, ho, f1, f2, f3, hl, hz, hf, hr⟩ := h
  refine ⟨gn, gm, ov, blk_set hd 3 _, blk_far hs (p := ⟨d, 3, none⟩) (blk_ne hs hd (by decide)) _, hm.kept (Below.heap_setCell w ⟨d, 3, none⟩ _ gm (map_ne hd hm)), Kd.R_set ho hd (by decide) 3 _, f1, f2, f3, hl, hz, hn, hr⟩
theorem DiskAt.gone {F : Nat → Prop} {w : World} {d : Nat} {st : St} (h : DiskAt F w d st) (b : Bool) :
    DiskAt F (w.setCell ⟨d, 4, none⟩ (.bool b)) d { st with gone := b } := by
  obtain ⟨gn, gm, ov, hd, hs, hm, ho, f1, f2, f3, hl, hz, hf, hr⟩ := h
  refine ⟨gn, gm, ov, blk_set hd 4 _, blk_far hs (p := ⟨d, 4, none⟩) (blk_ne hs hd (by decide)) _, hm.kept (Below.heap_setCell w ⟨d, 4, none⟩ _ gm (map_ne hd hm)), Kd.R_set ho hd (by decide) 4 _, f1, f2, f3, hl, hz, hf, hr⟩
theorem DiskAt.Fd {F : Nat → Prop} {w : World} {d : Nat} {st : St} (h : DiskAt F w d st) : F d := by
  obtain ⟨gn, gm, ov, hd, hs, hm, ho, f1, _⟩ := h
  exact f1
theorem DiskAt.more {F F' : Nat → Prop} {w : World} {d : Nat} {st : St} (h : DiskAt F w d st) (hF : ∀ i, F i → F' i) : DiskAt F' w d st := by
  obtain ⟨gn, gm, ov, hd, hs, hm, ho, f1, f2, f3, r⟩ := h
  exact ⟨gn, gm, ov, hd, hs, hm, Kd.R_mono ho hF, hF _ f1, hF _ f2, hF _ f3, r⟩
set_option maxRecDepth 100000 in
theorem Fuse.calls (F : Nat → Prop) (d : Nat) (st : St) (n : Int) (hn : n ≤ 9223372036854775807) (w : World) (h : DiskAt F w d st) :
    Calls Try.prog 25 #[.pointer (some ⟨d, 0, none⟩), .int .i64 n] w fun e w' => e = .returned (.tuple #[]) ∧ DiskAt F w' d { st with fuse := max (-1) n } ∧ Fr F w w' := by
  have h0 := hid h
  obtain ⟨gn, gm, ov, hd, _⟩ := h
  have c3 : w.cell? ⟨d, 3, none⟩ = some (.int .i64 st.fuse) := (blk_cell hd 3).trans rfl
  have f3 := blk_frozen hd 3
  have HM : Hid (-1 ≤ max (-1) n ∧ max (-1) n ≤ 9223372036854775807) := hid (by omega)
  clear hd
  go_enter Try.func25, Try.ntmps25
  go_wp2
  go_end0
  exact ⟨rfl, h0.out.fuse (max (-1) n) HM.out, (Fr.refl F w).set (p := ⟨d, 3, none⟩) h0.out.Fd _⟩
set_option maxRecDepth 100000 in
theorem Sync.no (F : Nat → Prop) (d : Nat) (st : St) (w : World) (h : DiskAt F w d st) (hg : st.gone = true) :
    Calls Try.prog 26 #[.pointer (some ⟨d, 0, none⟩)] w fun e w' => e = .returned (.int .i64 5) ∧ w = w' := by
  obtain ⟨gn, gm, ov, hd, _⟩ := h
  have c4 : w.cell? ⟨d, 4, none⟩ = some (.bool true) := by rw [← hg]; exact (blk_cell hd 4).trans rfl
  clear hd hg
  go_enter Try.func26, Try.ntmps26
  go_wp2
  go_ret
  exact ⟨rfl, rfl⟩
/-- The map and the row of the loose ones are new. -/
theorem DiskAt.clean {F : Nat → Prop} {w : World} {d : Nat} {st : St} (h : DiskAt F w d st) :
    DiskAt (fun i => F i ∨ w.heap.size ≤ i) (((w.setCell ⟨d, 1, none⟩ (.map (some w.heap.size))).setCell ⟨d, 2, none⟩ (.slice none 0 0)).alloc (.map #[] 0)) d { st with loose := [] } := by
  obtain ⟨gn, gm, ov, hd, hs, hm, ho, f1, f2, f3, hl, hz, hf, hr⟩ := h
  have hn := blk_ne hs hd (by decide)
  have hm1 := MapS.new ((w.setCell ⟨d, 1, none⟩ (.map (some w.heap.size))).setCell ⟨d, 2, none⟩ (.slice none 0 0))
  have hz1 : ((w.setCell ⟨d, 1, none⟩ (.map (some w.heap.size))).setCell ⟨d, 2, none⟩ (.slice none 0 0)).heap.size = w.heap.size := by simp
  rw [hz1] at hm1
  exact ⟨gn, w.heap.size, .slice none 0 0, blk_alloc (blk_set (blk_set hd 1 _) 2 _) _, blk_alloc (blk_far (blk_far hs (p := ⟨d, 1, none⟩) hn _) (p := ⟨d, 2, none⟩) hn _) _, hm1, Kd.R_nil _ _ _ _ _, .inl f1, .inl f2, .inr (Nat.le_refl _), hl, hz, hf, fun p hp => absurd hp List.not_mem_nil⟩
set_option maxRecDepth 100000 in
theorem Sync.yes (F : Nat → Prop) (d : Nat) (st : St) (w : World) (h : DiskAt F w d st) (hg : st.gone = false) :
    Calls Try.prog 26 #[.pointer (some ⟨d, 0, none⟩)] w fun e w' => e = .returned (.int .i64 0) ∧ DiskAt (fun i => F i ∨ w.heap.size ≤ i) w' d { st with loose := [] } ∧ Fr F w w' := by
  have h0 := hid h
  have HC := hid h.clean
  obtain ⟨gn, gm, ov, hd, _⟩ := h
  have c4 : w.cell? ⟨d, 4, none⟩ = some (.bool false) := by rw [← hg]; exact (blk_cell hd 4).trans rfl
  have c1 : w.cell? ⟨d, 1, none⟩ = some (.map (some gm)) := (blk_cell hd 1).trans rfl
  have c2 : w.cell? ⟨d, 2, none⟩ = some ov := (blk_cell hd 2).trans rfl
  have f1 := blk_frozen hd 1
  have f2 := blk_frozen hd 2
  have hlt := blk_lt hd
  have hne : d ≠ w.heap.size := by omega
  have hmm := @run_makeMap Try.prog
  clear hd hg
  go_enter Try.func26, Try.ntmps26
  go_wp2
  go_ret
  exact ⟨rfl, HC.out, (((Fr.refl F w).set (p := ⟨d, 1, none⟩) h0.out.Fd _).set (p := ⟨d, 2, none⟩) h0.out.Fd _).alloc _⟩
theorem reps_ints (l : List Int) : Reps (fun x cs => cs = [Value.int .i64 x]) 1 l (l.map (Value.int .i64)) := by
  refine ⟨by simp, fun j p hj => ?_⟩
  have hl : j < l.length := (List.getElem?_eq_some_iff.1 hj).1
  have e : l[j] = p := (List.getElem?_eq_some_iff.1 hj).2
  rw [Nat.mul_one, List.drop_eq_getElem_cons (by simpa using hl)]
  simp [e]
theorem row_of_owns {w : World} {base : Nat} {v : Value} {n : Nat} {l : List Int} (hn : n = l.length) (h : w.ownsRow base 3 1 v n (l.map (Value.int .i64))) : Kd.R (Kd.int .i64) 3 w base (fun _ => True) v l := by
  subst hn
  exact ⟨fun _ _ => trivial, _, h, reps_ints l⟩
theorem clone_row (base : Nat) (F : Nat → Prop) (ov : Value) (xs : List Int) (w : World) (ho : Kd.R (Kd.int .i64) 3 w base F ov xs) (hl : xs.length ≤ 100000) :
    Calls Try.prog 44 #[ov] w fun e w' => ∃ v, e = .returned v ∧ Kd.R (Kd.int .i64) 3 w' w.heap.size (fun _ => True) v xs ∧ Below w.heap.size w w' := by
  have h1 := Kd.own_of_R ho
  rcases h1.2 with ⟨rfl, h3⟩ | ⟨g, cap, cur, rfl, hg, hh, h4, h5, h6, h7⟩
  · have : xs = [] := by simpa [encs] using h3
    subst this
    refine (Try.slices_Clone_int_nil 0 0 w).mono ?_
    rintro e w' ⟨rfl, rfl⟩
    exact ⟨_, rfl, Kd.R_nil _ _ _ _ _, Below.refl _ _⟩
  · by_cases h0 : xs.length = 0
    · have : xs = [] := List.eq_nil_of_length_eq_zero h0
      subst this
      refine (Try.slices_Clone_int_zero ⟨g, 0, none⟩ cap w).mono ?_
      rintro e w' ⟨v, rfl, h8, _, h9⟩
      exact ⟨v, rfl, row_of_owns rfl h8, h9⟩
    · refine (Try.slices_Clone_int g 0 xs.length cap xs w (Nat.le_refl _) (by omega) (fun j hj => ?_)).mono ?_
      · rw [Nat.zero_add, blk_cell hh j]
        have h8 := congrArg (fun l => l[j]?) h7
        simp only [Nat.mul_one] at h8
        rw [List.getElem?_take_of_lt hj] at h8
        rw [← Array.getElem?_toList, h8]
        simp [encs, hj]
      · rintro e w' ⟨v, rfl, h8, _, h9⟩
        rw [List.take_length] at h8
        exact ⟨v, rfl, row_of_owns rfl h8, h9⟩
set_option maxRecDepth 100000 in
theorem Loose.calls (F : Nat → Prop) (d : Nat) (st : St) (w : World) (h : DiskAt F w d st) (hl : st.loose.length ≤ 100000) :
    Calls Try.prog 30 #[.pointer (some ⟨d, 0, none⟩)] w fun e w' => ∃ v, e = .returned v ∧ Kd.R (Kd.int .i64) 3 w' w.heap.size (fun _ => True) v (st.loose.map (·.1)) ∧ Below w.heap.size w w' := by
  obtain ⟨gn, gm, ov, hd, hs, hm, ho, _⟩ := h
  have c2 : w.cell? ⟨d, 2, none⟩ = some ov := (blk_cell hd 2).trans rfl
  have hll : (st.loose.map (·.1)).length = st.loose.length := List.length_map ..
  obtain ⟨xs, hxs⟩ : ∃ xs, st.loose.map (·.1) = xs := ⟨_, rfl⟩
  rw [hxs] at ho hll ⊢
  rw [← hll] at hl
  clear hd hs hm hll hxs
  have HCl : Calls Try.prog 44 #[ov] w fun e w' => ∃ v, e = .returned v ∧ Kd.R (Kd.int .i64) 3 w' w.heap.size (fun _ => True) v xs ∧ Below w.heap.size w w' := clone_row 0 F ov xs w ho hl
  have HC := hid HCl
  clear HCl ho
  go_enter Try.func30, Try.ntmps30
  go_wp2_with fail
  refine HC.out.mono ?_
  rintro e w1 ⟨v, rfl, hR, hB⟩
  replace hR := hid hR
  replace hB := hid hB
  go_wp2_with fail
  go_ret
  exact ⟨v, rfl, hR.out, hB.out⟩
theorem Write.no (d : Nat) (n r : Int) (hr : r ≠ 0) (s : ByteArray) (w : World) (hm : Calls Try.prog 43 #[.pointer (some ⟨d, 0, none⟩), .int .i64 n] w fun e w' => e = .returned (.int .i64 r) ∧ w = w') :
    Calls Try.prog 23 #[.pointer (some ⟨d, 0, none⟩), .int .i64 n, .string s] w fun e w' => e = .returned (.int .i64 r) ∧ w = w' := by
  have q : (r != 0) = true := by simp [hr]
  go_enter Try.func23, Try.ntmps23
  go_wp2_with fail
  refine hm.mono ?_
  rintro e w' ⟨rfl, rfl⟩
  go_wp2_with fail
  go_ret
  exact ⟨rfl, rfl⟩
theorem Write.size (F : Nat → Prop) (d : Nat) (st : St) (n : Nat) (s : ByteArray) (hs : s.size ≠ 256) (w : World) (h : DiskAt F w d st) (hg : st.gone = false) (hn : n < st.now.length) :
    Calls Try.prog 23 #[.pointer (some ⟨d, 0, none⟩), .int .i64 (n : Int), .string s] w fun e w' => e = .returned (.int .i64 1) ∧ w = w' := by
  have hm := may.ok F d st n w h hg (by omega) (by omega)
  have q : ((s.size : Int) != 256) = true := by simp; omega
  clear h hg hn
  go_enter Try.func23, Try.ntmps23
  go_wp2_with fail
  refine hm.mono ?_
  rintro e w' ⟨rfl, rfl⟩
  go_wp2_with fail
  go_ret
  exact ⟨rfl, rfl⟩
theorem Write.down (F : Nat → Prop) (d : Nat) (st : St) (n : Nat) (s : ByteArray) (hs : s.size = 256) (w : World) (h : DiskAt F w d st) (hg : st.gone = false) (hn : n < st.now.length) (hf : st.fuse = 0) :
    Calls Try.prog 23 #[.pointer (some ⟨d, 0, none⟩), .int .i64 (n : Int), .string s] w fun e w' => e = .returned (.int .i64 5) ∧ DiskAt F w' d { st with gone := true } ∧ Fr F w w' := by
  have hm := may.ok F d st n w h hg (by omega) (by omega)
  have q : ((s.size : Int) != 256) = false := by simp; omega
  have h0 := hid h
  obtain ⟨gn, gm, ov, hd, _⟩ := h
  have c3 : w.cell? ⟨d, 3, none⟩ = some (.int .i64 0) := by rw [← hf]; exact (blk_cell hd 3).trans rfl
  have c4 : w.cell? ⟨d, 4, none⟩ = some (.bool false) := by rw [← hg]; exact (blk_cell hd 4).trans rfl
  have f4 := blk_frozen hd 4
  clear hd hn hf hs hg
  go_enter Try.func23, Try.ntmps23
  go_wp2_with fail
  refine hm.mono ?_
  rintro e w' ⟨rfl, rfl⟩
  go_wp2_with fail
  go_ret
  exact ⟨rfl, h0.out.gone true, (Fr.refl F w).set (p := ⟨d, 4, none⟩) h0.out.Fd _⟩
/-- A sector is written. -/
theorem DiskAt.sector {F : Nat → Prop} {w : World} {d : Nat} {st : St} (h : DiskAt F w d st) (n : Nat) (s : ByteArray) (hs : s.size ≤ 1000000000) :
    ∃ gn, F gn ∧ (∃ c, w.cell? ⟨d, 0, none⟩ = some (.slice (some ⟨gn, 0, none⟩) st.now.length c)) ∧ DiskAt F (w.setCell ⟨gn, n, none⟩ (.string s)) d { st with now := st.now.set n s } := by
  obtain ⟨gn, gm, ov, hd, hsx, hm, ho, f1, f2, f3, hl, hz, hf, hr⟩ := h
  refine ⟨gn, f2, ⟨_, (blk_cell hd 0).trans rfl⟩, gn, gm, ov, ?_, ?_, hm.kept (Below.heap_setCell w ⟨gn, n, none⟩ _ gm (map_ne hsx hm)), Kd.R_set ho hsx (by decide) n _, f1, f2, f3, ?_, ?_, hf, ?_⟩
  · rw [List.length_set]
    exact blk_far hd (p := ⟨gn, n, none⟩) (blk_ne hd hsx (by decide)) _
  · have := blk_set hsx n (.string s)
    rw [List.map_set]
    simpa using this
  · rw [List.length_set]; exact hl
  · intro x hx
    rcases List.mem_or_eq_of_mem_set hx with h | h
    · exact hz x h
    · rw [h]; exact hs
  · rw [List.length_set]; exact hr
theorem Write.again (F : Nat → Prop) (d : Nat) (st : St) (n : Nat) (s : ByteArray) (hs : s.size = 256) (w : World) (h : DiskAt F w d st) (hg : st.gone = false) (hn : n < st.now.length) (hf : st.fuse ≠ 0) (hl : hasS st.loose (n : Int) = true) :
    Calls Try.prog 23 #[.pointer (some ⟨d, 0, none⟩), .int .i64 (n : Int), .string s] w fun e w' => e = .returned (.int .i64 0) ∧ DiskAt F w' d { st with fuse := max (-1) (st.fuse - 1), now := st.now.set n s } ∧ Fr F w w' := by
  have hm := may.ok F d st n w h hg (by omega) (by omega)
  have q : ((s.size : Int) != 256) = false := by simp; omega
  have hfb : -1 ≤ st.fuse ∧ st.fuse ≤ 9223372036854775807 := by obtain ⟨gn, gm, ov, _, _, _, _, _, _, _, _, _, hf, _⟩ := h; exact hf
  have h1 := h.fuse (max (-1) (st.fuse - 1)) (by omega)
  obtain ⟨gn2, fg, ⟨cc, hc⟩, h2⟩ := h1.sector n s (by omega)
  obtain ⟨gn, gm, ov, hd, hsx, hmp, _, f1, _, _, hlen, _⟩ := h
  have c0 : w.cell? ⟨d, 0, none⟩ = some (.slice (some ⟨gn, 0, none⟩) st.now.length st.now.length) := (blk_cell hd 0).trans rfl
  have c1 : w.cell? ⟨d, 1, none⟩ = some (.map (some gm)) := (blk_cell hd 1).trans rfl
  have c3 : w.cell? ⟨d, 3, none⟩ = some (.int .i64 st.fuse) := (blk_cell hd 3).trans rfl
  have f3 := blk_frozen hd 3
  have fs := blk_frozen hsx n
  have cs : w.cell? ⟨gn, n, none⟩ = some (.string (st.now.getD n ⟨#[]⟩)) := (blk_cell hsx n).trans (strs_at _ _ hn)
  have hne := blk_ne hsx hd (by decide)
  have hlk := (hmp.kept (Below.heap_setCell w ⟨d, 3, none⟩ (.int .i64 (max (-1) (st.fuse - 1))) gm (map_ne hd hmp))).look_ok (k := (n : Int)) ⟨by omega, by omega⟩
  rw [hl] at hlk
  have hge : gn2 = gn := by
    have e0 : some (Value.slice (some ⟨gn2, 0, none⟩) st.now.length cc) = some (Value.slice (some ⟨gn, 0, none⟩) st.now.length st.now.length) :=
      hc.symm.trans ((blk_cell (blk_set hd 3 (.int .i64 (max (-1) (st.fuse - 1)))) 0).trans rfl)
    exact congrArg (fun v => match v with | some (Value.slice (some a) _ _) => a.block | _ => 0) e0
  subst hge
  have HD := hid (And.intro h2 (And.intro f1 fg))
  have hfq : (st.fuse == 0) = false := by simp [hf]
  have q0 : (0 : Int) ≤ (n : Int) := by omega
  have q1 : (n : Int) < (st.now.length : Int) := by omega
  have q2 : st.now.length ≤ 1000 := hlen.2
  clear h1 h2 hc hd hsx hmp hlen hl hg hf hn hs f1 fg
  generalize st.now.getD n ⟨#[]⟩ = x at *
  generalize getS st.loose (n : Int) = y at *
  generalize st.now.length = m at *
  generalize st.fuse = fu at *
  go_enter Try.func23, Try.ntmps23
  go_wp2_with fail
  refine hm.mono ?_
  rintro e w' ⟨rfl, rfl⟩
  go_wp2_with fail
  go_ret
  exact ⟨rfl, HD.out.1, ((Fr.refl F w).set (p := ⟨d, 3, none⟩) HD.out.2.1 _).set (p := ⟨gn2, n, none⟩) HD.out.2.2 _⟩
end Go.Proofs.Ytnffhdlkkfphbaa.D
