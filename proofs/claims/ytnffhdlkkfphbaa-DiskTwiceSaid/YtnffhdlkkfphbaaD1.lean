/-
  A disk in memory; the walks of its methods that read.
-/
import Derived.Test.YtnffhdlkkfphbaaD0
import Derived.Test.YtnffhdlkkfphbaaWWords
import Derived.Test.YtnffhdlkkfphbaaWLast
import Derived.Test.YtnffhdlkkfphbaaWMore
import Derived.WalkSpells
import Derived.WalkLawsBesides
import Derived.RegionTactic
import Derived.ChangeAlike
import Derived.BigRegion
import Derived.Handy
namespace Go.Proofs.Ytnffhdlkkfphbaa.D
set_option linter.unusedVariables false
set_option linter.unusedSimpArgs false
open Go.RowKit Go.Proofs.YtnffhdlkkfphbaaW.PrintWords Go.Proofs.YtnffhdlkkfphbaaW.PrintLast Go.Proofs.YtnffhdlkkfphbaaW.PrintMore
open Go.Lib (hid)
/-- What a disk says: its sectors, the loose ones in their order with what they had, its fuse; is the power gone? -/
structure St where
  now : List ByteArray
  loose : List (Int × ByteArray)
  fuse : Int
  gone : Bool
/-- A disk's memory: its block d, a row of sectors, a map, a row of the loose ones: all of them among F. -/
def DiskAt (F : Nat → Prop) (w : World) (d : Nat) (st : St) : Prop :=
  ∃ gn gm ov, w.heap[d]? = some (.cells #[.slice (some ⟨gn, 0, none⟩) st.now.length st.now.length, .map (some gm), ov, .int .i64 st.fuse, .bool st.gone] 80 (0, 0)) ∧
    w.heap[gn]? = some (.cells (st.now.map Value.string).toArray 9 (0, 0)) ∧ MapS w gm st.loose ∧ Kd.R (Kd.int .i64) 3 w 0 F ov (st.loose.map (·.1)) ∧
    F d ∧ F gn ∧ F gm ∧ (0 < st.now.length ∧ st.now.length ≤ 1000) ∧ (∀ s ∈ st.now, s.size ≤ 1000000000) ∧ (-1 ≤ st.fuse ∧ st.fuse ≤ 9223372036854775807) ∧
    (∀ p ∈ st.loose, 0 ≤ p.1 ∧ p.1 < st.now.length)
/-- What lies beside F stays. -/
structure Fr (F : Nat → Prop) (w w' : World) : Prop where
  os : w'.os = w.os
  tape : w'.tape = w.tape
  output : w'.output = w.output
  size : w.heap.size ≤ w'.heap.size
  keep : ∀ i, i < w.heap.size → ¬ F i → w'.heap[i]? = w.heap[i]?
theorem strs_at (xs : List ByteArray) (i : Nat) (h : i < xs.length) : ((xs.map Value.string).toArray)[i]? = some (.string (xs.getD i ⟨#[]⟩)) := by simp [h]
def inR (st : St) (n : Int) : Prop := 0 ≤ n ∧ n < st.now.length
set_option maxRecDepth 100000 in
theorem may.gone_ (F : Nat → Prop) (d : Nat) (st : St) (n : Int) (w : World) (h : DiskAt F w d st) (hg : st.gone = true) :
    Calls Try.prog 43 #[.pointer (some ⟨d, 0, none⟩), .int .i64 n] w fun e w' => e = .returned (.int .i64 5) ∧ w = w' := by
  obtain ⟨gn, gm, ov, hd, _⟩ := h
  have c4 : w.cell? ⟨d, 4, none⟩ = some (.bool true) := by rw [← hg]; exact (blk_cell hd 4).trans rfl
  clear hd hg
  go_enter Try.func43, Try.ntmps43
  go_wp2
  go_ret
  exact ⟨rfl, rfl⟩
set_option maxRecDepth 100000 in
theorem may.low (F : Nat → Prop) (d : Nat) (st : St) (n : Int) (w : World) (h : DiskAt F w d st) (hg : st.gone = false) (hn : n < 0) :
    Calls Try.prog 43 #[.pointer (some ⟨d, 0, none⟩), .int .i64 n] w fun e w' => e = .returned (.int .i64 1) ∧ w = w' := by
  obtain ⟨gn, gm, ov, hd, _⟩ := h
  have c4 : w.cell? ⟨d, 4, none⟩ = some (.bool false) := by rw [← hg]; exact (blk_cell hd 4).trans rfl
  clear hd hg
  go_enter Try.func43, Try.ntmps43
  go_wp2
  go_ret
  exact ⟨rfl, rfl⟩
set_option maxRecDepth 100000 in
theorem may.high (F : Nat → Prop) (d : Nat) (st : St) (n : Int) (w : World) (h : DiskAt F w d st) (hg : st.gone = false) (hn : 0 ≤ n) (hn2 : ¬ n < (st.now.length : Int)) :
    Calls Try.prog 43 #[.pointer (some ⟨d, 0, none⟩), .int .i64 n] w fun e w' => e = .returned (.int .i64 1) ∧ w = w' := by
  obtain ⟨gn, gm, ov, hd, _, _, _, _, _, _, hl, _⟩ := h
  have c4 : w.cell? ⟨d, 4, none⟩ = some (.bool false) := by rw [← hg]; exact (blk_cell hd 4).trans rfl
  have c0 : w.cell? ⟨d, 0, none⟩ = some (.slice (some ⟨gn, 0, none⟩) st.now.length st.now.length) := (blk_cell hd 0).trans rfl
  have hl2 := hl.2
  clear hd hg hl
  generalize st.now.length = m at *
  have hn3 : (m : Int) ≤ n := by omega
  go_enter Try.func43, Try.ntmps43
  go_wp2
  go_ret
  exact ⟨rfl, rfl⟩
set_option maxRecDepth 100000 in
theorem may.ok (F : Nat → Prop) (d : Nat) (st : St) (n : Int) (w : World) (h : DiskAt F w d st) (hg : st.gone = false) (hn : 0 ≤ n) (hn2 : n < (st.now.length : Int)) :
    Calls Try.prog 43 #[.pointer (some ⟨d, 0, none⟩), .int .i64 n] w fun e w' => e = .returned (.int .i64 0) ∧ w = w' := by
  obtain ⟨gn, gm, ov, hd, _, _, _, _, _, _, hl, _⟩ := h
  have c4 : w.cell? ⟨d, 4, none⟩ = some (.bool false) := by rw [← hg]; exact (blk_cell hd 4).trans rfl
  have c0 : w.cell? ⟨d, 0, none⟩ = some (.slice (some ⟨gn, 0, none⟩) st.now.length st.now.length) := (blk_cell hd 0).trans rfl
  have hl2 := hl.2
  clear hd hg hl
  generalize st.now.length = m at *
  go_enter Try.func43, Try.ntmps43
  go_wp2
  go_ret
  exact ⟨rfl, rfl⟩
set_option maxRecDepth 100000 in
theorem Up.calls (F : Nat → Prop) (d : Nat) (st : St) (w : World) (h : DiskAt F w d st) :
    Calls Try.prog 27 #[.pointer (some ⟨d, 0, none⟩)] w fun e w' => e = .returned (.bool (!st.gone)) ∧ w = w' := by
  obtain ⟨gn, gm, ov, hd, _⟩ := h
  have c4 : w.cell? ⟨d, 4, none⟩ = some (.bool st.gone) := (blk_cell hd 4).trans rfl
  clear hd
  generalize st.gone = g at *
  go_enter Try.func27, Try.ntmps27
  go_wp2
  go_ret
  exact ⟨rfl, rfl⟩
set_option maxRecDepth 100000 in
theorem Size.calls (F : Nat → Prop) (d : Nat) (st : St) (w : World) (h : DiskAt F w d st) :
    Calls Try.prog 49 #[.pointer (some ⟨d, 0, none⟩)] w fun e w' => e = .returned (.int .i64 (st.now.length : Int)) ∧ w = w' := by
  obtain ⟨gn, gm, ov, hd, _⟩ := h
  have c0 : w.cell? ⟨d, 0, none⟩ = some (.slice (some ⟨gn, 0, none⟩) st.now.length st.now.length) := (blk_cell hd 0).trans rfl
  clear hd
  generalize st.now.length = m at *
  go_enter Try.func49, Try.ntmps49
  go_wp2
  go_ret
  exact ⟨rfl, rfl⟩
set_option maxRecDepth 100000 in
theorem Read.ok (F : Nat → Prop) (d : Nat) (st : St) (n : Nat) (w : World) (h : DiskAt F w d st) (hg : st.gone = false) (hn2 : n < st.now.length) :
    Calls Try.prog 24 #[.pointer (some ⟨d, 0, none⟩), .int .i64 (n : Int)] w fun e w' => e = .returned (.tuple #[.string (st.now.getD n ⟨#[]⟩), .int .i64 0]) ∧ w = w' := by
  have hm := may.ok F d st n w h hg (by omega) (by omega)
  obtain ⟨gn, gm, ov, hd, hs, _, _, _, _, _, hl, _⟩ := h
  have c0 : w.cell? ⟨d, 0, none⟩ = some (.slice (some ⟨gn, 0, none⟩) st.now.length st.now.length) := (blk_cell hd 0).trans rfl
  have cn : w.cell? ⟨gn, n, none⟩ = some (.string (st.now.getD n ⟨#[]⟩)) := (blk_cell hs n).trans (strs_at _ _ hn2)
  have hl2 := hl.2
  have q0 : (0 : Int) ≤ (n : Int) := by omega
  have q1 : (n : Int) < (st.now.length : Int) := by omega
  clear hd hs hl hg
  generalize st.now.getD n ⟨#[]⟩ = x at *
  generalize st.now.length = m at *
  go_enter Try.func24, Try.ntmps24
  go_wp2_with fail
  refine hm.mono ?_
  rintro e w' ⟨rfl, rfl⟩
  go_wp2_with fail
  go_ret2
  exact ⟨rfl, rfl⟩
theorem Read.no (F : Nat → Prop) (d : Nat) (st : St) (n r : Int) (hr : r ≠ 0) (w : World) (hm : Calls Try.prog 43 #[.pointer (some ⟨d, 0, none⟩), .int .i64 n] w fun e w' => e = .returned (.int .i64 r) ∧ w = w') :
    Calls Try.prog 24 #[.pointer (some ⟨d, 0, none⟩), .int .i64 n] w fun e w' => e = .returned (.tuple #[.string ⟨#[]⟩, .int .i64 r]) ∧ w = w' := by
  have q : (r != 0) = true := by simp [hr]
  go_enter Try.func24, Try.ntmps24
  go_wp2_with fail
  refine hm.mono ?_
  rintro e w' ⟨rfl, rfl⟩
  go_wp2_with fail
  go_ret2
  exact ⟨rfl, rfl⟩
end Go.Proofs.Ytnffhdlkkfphbaa.D
