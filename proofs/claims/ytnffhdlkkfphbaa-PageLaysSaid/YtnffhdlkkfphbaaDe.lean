/-
  disk.New's refusal; a disk is moved along.
  What the chapter's examples come to, on the disk's states.
  The disk's methods over a base: all that lies below B stays.
-/
import Derived.Test.YtnffhdlkkfphbaaDb
namespace Go.Proofs.Ytnffhdlkkfphbaa.D
set_option linter.unusedVariables false
set_option linter.unusedSimpArgs false
open Go.RowKit Go.Proofs.YtnffhdlkkfphbaaW.PrintWords Go.Proofs.YtnffhdlkkfphbaaW.PrintLast Go.Proofs.YtnffhdlkkfphbaaW.PrintMore
open Go.Lib (hid)
set_option maxRecDepth 100000 in
theorem New.no (n : Int) (hn : n < 8 ∨ 640 < n) (w : World) :
    Calls Try.prog 21 #[.int .i64 n] w fun e w' => e = .returned (.tuple #[.pointer none, .int .i64 1]) ∧ w = w' := by
  by_cases h : n < 8
  · clear hn
    go_enter Try.func21, Try.ntmps21
    go_wp2_with fail
    go_ret2
    exact ⟨rfl, rfl⟩
  · have h2 : 640 < n := by omega
    clear hn
    go_enter Try.func21, Try.ntmps21
    go_wp2_with fail
    go_ret2
    exact ⟨rfl, rfl⟩
/-- A disk of one's own stays as it is while others write beside it. -/
theorem DiskAt.moved {F : Nat → Prop} {w w' : World} {d : Nat} {st : St} (h : DiskAt F w d st) (hb : ∀ i, i < w.heap.size → F i → w'.heap[i]? = w.heap[i]?) : DiskAt F w' d st := by
  obtain ⟨gn, gm, ov, hd, hs, hm, ho, f1, f2, f3, r⟩ := h
  exact ⟨gn, gm, ov, (hb d (blk_lt hd) f1).trans hd, (hb gn (blk_lt hs) f2).trans hs, hm.kept (hb gm hm.lt f3), Kd.R_step ho (fun k hk hlt => hb k hlt hk), f1, f2, f3, r⟩
theorem DiskAt.below {F : Nat → Prop} {w w' : World} {d : Nat} {st : St} (h : DiskAt F w d st) (hb : Below w.heap.size w w') : DiskAt F w' d st := h.moved (fun i hi _ => hb.block i hi)
def ex0 (Z : ByteArray) : St := { now := List.replicate 8 Z, loose := [], fuse := -1, gone := false }
def ex1 (Z x : ByteArray) : St := { now := (List.replicate 8 Z).set 3 x, loose := [(3, Z)], fuse := -1, gone := false }
def ex2 (Z x : ByteArray) : St := { now := crashN [(3, Z)] [] ((List.replicate 8 Z).set 3 x) 1, loose := [], fuse := -1, gone := false }
theorem ex_write (Z x : ByteArray) (h : x.size = 256) : writes (ex0 Z) 3 x = (0, ex1 Z x) := by
  unfold writes ex0 ex1
  simp [h, hasS]
  decide
theorem ex_read1 (Z x : ByteArray) : reads (ex1 Z x) 3 = (x, 0) := by
  unfold reads ex1
  simp
theorem ex_read2 (Z x : ByteArray) : reads (ex2 Z x) 3 = (Z, 0) := by
  unfold reads ex2
  simp [crashN, lets, getS]
/-- A disk that lies at B or above. -/
abbrev DiskOn (B : Nat) (w : World) (d : Nat) (st : St) : Prop := DiskAt (fun i => B ≤ i) w d st
theorem Fr.below {B : Nat} {w w' : World} (h : Fr (fun i => B ≤ i ∨ w.heap.size ≤ i) w w') (hB : B ≤ w.heap.size) : Below B w w' :=
  ⟨h.os, h.tape, h.output, h.size, fun k hk => h.keep k (by omega) (by omega)⟩
theorem Fr.below' {B : Nat} {w w' : World} (h : Fr (fun i => B ≤ i) w w') (hB : B ≤ w.heap.size) : Below B w w' :=
  ⟨h.os, h.tape, h.output, h.size, fun k hk => h.keep k (by omega) (by omega)⟩
theorem DiskAt.on {B : Nat} {w w' : World} {d : Nat} {st : St} (h : DiskAt (fun i => B ≤ i ∨ w.heap.size ≤ i) w' d st) (hB : B ≤ w.heap.size) : DiskOn B w' d st := h.more (fun i hi => by omega)
theorem New.on (B n : Nat) (hn : 8 ≤ n ∧ n ≤ 640) (w : World) (hB : B ≤ w.heap.size) :
    Calls Try.prog 21 #[.int .i64 (n : Int)] w fun e w' => ∃ d, e = .returned (.tuple #[.pointer (some ⟨d, 0, none⟩), .int .i64 0]) ∧ DiskOn B w' d { now := List.replicate n zeros, loose := [], fuse := -1, gone := false } ∧ Below w.heap.size w w' := by
  refine (New.ok n hn w).mono ?_
  rintro e w' ⟨d, rfl, h1, h2⟩
  exact ⟨d, rfl, h1.more (fun i hi => by omega), h2⟩
theorem Write.on (B d : Nat) (st : St) (n : Int) (s : ByteArray) (w : World) (h : DiskOn B w d st) (hB : B ≤ w.heap.size) (hll : st.loose.length ≤ 100000) :
    Calls Try.prog 23 #[.pointer (some ⟨d, 0, none⟩), .int .i64 n, .string s] w fun e w' => e = .returned (.int .i64 (writes st n s).1) ∧ DiskOn B w' d (writes st n s).2 ∧ Below B w w' := by
  refine (Write.calls _ d st n s w h hll).mono ?_
  rintro e w' ⟨rfl, h1, h2⟩
  exact ⟨rfl, h1.on hB, h2.below hB⟩
theorem Crash.on (B d : Nat) (st : St) (Ak : Option Addr) (ck : Nat) (ks : List Int) (w : World) (h : DiskOn B w d st) (hB : B ≤ w.heap.size) (hk : RowA w (fun i => B ≤ i) Ak ks) (hll : st.loose.length ≤ 100000) :
    Calls Try.prog 28 #[.pointer (some ⟨d, 0, none⟩), .slice Ak ks.length ck] w fun e w' => e = .returned (.tuple #[]) ∧ DiskOn B w' d { now := crashN st.loose ks st.now st.loose.length, loose := [], fuse := -1, gone := false } ∧ Below B w w' := by
  refine (Crash.calls _ d st Ak ck ks w h hk hll).mono ?_
  rintro e w' ⟨rfl, h1, h2⟩
  exact ⟨rfl, h1.on hB, h2.below hB⟩
theorem Fuse.on (B d : Nat) (st : St) (n : Int) (hn : n ≤ 9223372036854775807) (w : World) (h : DiskOn B w d st) (hB : B ≤ w.heap.size) :
    Calls Try.prog 25 #[.pointer (some ⟨d, 0, none⟩), .int .i64 n] w fun e w' => e = .returned (.tuple #[]) ∧ DiskOn B w' d { st with fuse := max (-1) n } ∧ Below B w w' := by
  refine (Fuse.calls _ d st n hn w h).mono ?_
  rintro e w' ⟨rfl, h1, h2⟩
  exact ⟨rfl, h1, h2.below' hB⟩
theorem Sync.on (B d : Nat) (st : St) (w : World) (h : DiskOn B w d st) (hB : B ≤ w.heap.size) :
    Calls Try.prog 26 #[.pointer (some ⟨d, 0, none⟩)] w fun e w' => e = .returned (.int .i64 (if st.gone then 5 else 0)) ∧ DiskOn B w' d (if st.gone then st else { st with loose := [] }) ∧ Below B w w' := by
  by_cases hg : st.gone = true
  · refine (Sync.no _ d st w h hg).mono ?_
    rintro e w' ⟨rfl, rfl⟩
    rw [if_pos hg, if_pos hg]
    exact ⟨rfl, h, Below.refl _ _⟩
  · refine (Sync.yes _ d st w h (by simpa using hg)).mono ?_
    rintro e w' ⟨rfl, h1, h2⟩
    rw [if_neg hg, if_neg hg]
    exact ⟨rfl, h1.on hB, h2.below' hB⟩
end Go.Proofs.Ytnffhdlkkfphbaa.D
