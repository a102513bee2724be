/-
  The disk's methods over a base: all that lies below B stays.
-/
import Derived.Test.YtnffhdlkkfphbaaDd
namespace Go.Proofs.Ytnffhdlkkfphbaa.D
set_option linter.unusedVariables false
set_option linter.unusedSimpArgs false
open Go.RowKit Go.Proofs.YtnffhdlkkfphbaaW.PrintWords Go.Proofs.YtnffhdlkkfphbaaW.PrintLast Go.Proofs.YtnffhdlkkfphbaaW.PrintMore
open Go.Lib (hid)
/-- A disk that lies at B or above. -/
abbrev DiskOn (B : Nat) (w : World) (d : Nat) (st : St) : Prop := DiskAt (fun i => B ≤ i) w d st
theorem Fr.below {B : Nat} {w w' : World} (h : Fr (fun i => B ≤ i ∨ w.heap.size ≤ i) w w') (hB : B ≤ w.heap.size) : Below B w w' :=
  ⟨h.os, h.tape, h.output, h.size, fun k hk => h.keep k (by omega) (by omega)⟩
theorem Fr.below' {B : Nat} {w w' : World} (h : Fr (fun i => B ≤ i) w w') (hB : B ≤ w.heap.size) : Below B w w' :=
  ⟨h.os, h.tape, h.output, h.size, fun k hk => h.keep k (by omega) (by omega)⟩
theorem DiskAt.on {B : Nat} {w w' : World} {d : Nat} {st : St} (h : DiskAt (fun i => B ≤ i ∨ w.heap.size ≤ i) w' d st) (hB : B ≤ w.heap.size) : DiskOn B w' d st := h.more (fun i hi => by omega)
theorem New.on (B n : Nat) (hn : 8 ≤ n ∧ n ≤ 640) (w : World) (hB : B ≤ w.heap.size) :
    Calls Try.prog 21 #[.int .i64 (n : Int)] w fun e w' => ∃ d, e = .returned (.tuple #[.pointer (some ⟨d, 0, none⟩), .int .i64 0]) ∧ DiskOn B w' d { now := List.replicate n zeros, loose := [], fuse := -1, gone := false } ∧ Below w.heap.size w w' := by
  refine (New.ok n hn w).mono ?_
  rintro e w' ⟨d, rfl, h1, h2⟩
  exact ⟨d, rfl, h1.more (fun i hi => by omega), h2⟩
theorem Write.on (B d : Nat) (st : St) (n : Int) (s : ByteArray) (w : World) (h : DiskOn B w d st) (hB : B ≤ w.heap.size) (hll : st.loose.length ≤ 100000) :
    Calls Try.prog 23 #[.pointer (some ⟨d, 0, none⟩), .int .i64 n, .string s] w fun e w' => e = .returned (.int .i64 (writes st n s).1) ∧ DiskOn B w' d (writes st n s).2 ∧ Below B w w' := by
  refine (Write.calls _ d st n s w h hll).mono ?_
  rintro e w' ⟨rfl, h1, h2⟩
  exact ⟨rfl, h1.on hB, h2.below hB⟩
theorem Crash.on (B d : Nat) (st : St) (Ak : Option Addr) (ck : Nat) (ks : List Int) (w : World) (h : DiskOn B w d st) (hB : B ≤ w.heap.size) (hk : RowA w (fun i => B ≤ i) Ak ks) (hll : st.loose.length ≤ 100000) :
    Calls Try.prog 28 #[.pointer (some ⟨d, 0, none⟩), .slice Ak ks.length ck] w fun e w' => e = .returned (.tuple #[]) ∧ DiskOn B w' d { now := crashN st.loose ks st.now st.loose.length, loose := [], fuse := -1, gone := false } ∧ Below B w w' := by
  refine (Crash.calls _ d st Ak ck ks w h hk hll).mono ?_
  rintro e w' ⟨rfl, h1, h2⟩
  exact ⟨rfl, h1.on hB, h2.below hB⟩
theorem Fuse.on (B d : Nat) (st : St) (n : Int) (hn : n ≤ 9223372036854775807) (w : World) (h : DiskOn B w d st) (hB : B ≤ w.heap.size) :
    Calls Try.prog 25 #[.pointer (some ⟨d, 0, none⟩), .int .i64 n] w fun e w' => e = .returned (.tuple #[]) ∧ DiskOn B w' d { st with fuse := max (-1) n } ∧ Below B w w' := by
  refine (Fuse.calls _ d st n hn w h).mono ?_
  rintro e w' ⟨rfl, h1, h2⟩
  exact ⟨rfl, h1, h2.below' hB⟩
theorem Sync.on (B d : Nat) (st : St) (w : World) (h : DiskOn B w d st) (hB : B ≤ w.heap.size) :
    Calls Try.prog 26 #[.pointer (some ⟨d, 0, none⟩)] w fun e w' => e = .returned (.int .i64 (if st.gone then 5 else 0)) ∧ DiskOn B w' d (if st.gone then st else { st with loose := [] }) ∧ Below B w w' := by
  by_cases hg : st.gone = true
  · refine (Sync.no _ d st w h hg).mono ?_
    rintro e w' ⟨rfl, rfl⟩
    rw [if_pos hg, if_pos hg]
    exact ⟨rfl, h, Below.refl _ _⟩
  · refine (Sync.yes _ d st w h (by simpa using hg)).mono ?_
    rintro e w' ⟨rfl, h1, h2⟩
    rw [if_neg hg, if_neg hg]
    exact ⟨rfl, h1.on hB, h2.below' hB⟩
end Go.Proofs.Ytnffhdlkkfphbaa.D
