/-
  Both disks in one memory: each method leaves the other one as it is; they stay alike.
  A deed on both disks: they answer alike.
  Both disks read alike; both are made.
-/
import Derived.Test.YtnffhdlkkfphbaaR5
import Derived.Test.YtnffhdlkkfphbaaR6
namespace Go.Proofs.Ytnffhdlkkfphbaa.D
set_option linter.unusedVariables false
set_option linter.unusedSimpArgs false
open Go.RowKit Go.Proofs.YtnffhdlkkfphbaaW.PrintWords Go.Proofs.YtnffhdlkkfphbaaW.PrintLast Go.Proofs.YtnffhdlkkfphbaaW.PrintMore
open Go.Lib (hid)
theorem RWrite.calls (F : Nat → Prop) (x : Nat) (st : St) (n : Int) (s : ByteArray) (w : World) (h : RefAt F w x st) (hll : st.loose.length ≤ 10000) :
    Calls Try.prog 35 #[.pointer (some ⟨x, 0, none⟩), .int .i64 n, .string s] w fun e w' => e = .returned (.int .i64 (rwrites st n s).1) ∧ RefAt (fun i => F i ∨ w.heap.size ≤ i) w' x (rwrites st n s).2 ∧ Fr (fun i => F i ∨ w.heap.size ≤ i) w w' := by
  cases hg : st.gone with
  | true =>
    have e : rwrites st n s = (5, st) := by unfold rwrites; rw [hg, if_pos rfl]
    have h1 := RWrite.no F x st n s w h (.inl hg)
    rw [hg, if_pos rfl] at h1
    rw [e]
    refine h1.mono ?_
    rintro e w' ⟨rfl, rfl⟩
    exact ⟨rfl, h.more (fun _ h => .inl h), Fr.refl _ _⟩
  | false =>
    by_cases hr : n < 0 ∨ (st.now.length : Int) ≤ n
    · have e : rwrites st n s = (1, st) := by unfold rwrites; rw [hg, if_neg (by decide), if_pos hr]
      have h1 := RWrite.no F x st n s w h (by
        by_cases h0 : n < 0
        · exact .inr (.inl ⟨hg, h0⟩)
        · exact .inr (.inr (.inl ⟨hg, h0, by rcases hr with h | h; exact absurd h h0; exact h⟩)))
      rw [hg, if_neg (by decide)] at h1
      rw [e]
      refine h1.mono ?_
      rintro e w' ⟨rfl, rfl⟩
      exact ⟨rfl, h.more (fun _ h => .inl h), Fr.refl _ _⟩
    · by_cases hs : s.size = 256
      · by_cases hf : st.fuse = 0
        · have e : rwrites st n s = (5, { st with gone := true }) := by unfold rwrites; rw [hg, if_neg (by decide), if_neg hr, if_neg (by omega), if_pos hf]
          rw [e]
          refine (RWrite.down F x st n s w h hg (by omega) (by omega) hs hf).mono ?_
          rintro e w' ⟨rfl, h1, h2⟩
          exact ⟨rfl, h1.more (fun _ h => .inl h), h2.more (fun _ h => .inl h)⟩
        · obtain ⟨m, rfl⟩ : ∃ m : Nat, n = (m : Int) := ⟨n.toNat, by omega⟩
          have e : rwrites st (m : Int) s = (0, { st with fuse := if 0 < st.fuse then st.fuse - 1 else st.fuse, loose := if hasS st.loose (m : Int) then st.loose else st.loose ++ [((m : Int), st.now.getD m ⟨#[]⟩)], now := st.now.set m s }) := by
            unfold rwrites; rw [hg, if_neg (by decide), if_neg hr, if_neg (by omega), if_neg hf, Int.toNat_natCast, ← hg]
          rw [e]
          exact RWrite.yes F x st m s hs w h hg (by omega) hf hll
      · have e : rwrites st n s = (1, st) := by unfold rwrites; rw [hg, if_neg (by decide), if_neg hr, if_pos hs]
        have h1 := RWrite.no F x st n s w h (.inr (.inr (.inr ⟨hg, by omega, by omega, hs⟩)))
        rw [hg, if_neg (by decide)] at h1
        rw [e]
        refine h1.mono ?_
        rintro e w' ⟨rfl, rfl⟩
        exact ⟨rfl, h.more (fun _ h => .inl h), Fr.refl _ _⟩
/-- Both disks, apart from one another and from the blocks K. -/
def Two (K : Nat → Prop) (w : World) (d x : Nat) (st rst : St) : Prop :=
  ∃ FD FR, DiskAt FD w d st ∧ RefAt FR w x rst ∧ (∀ i, FD i → ¬ K i ∧ i < w.heap.size) ∧ (∀ i, FR i → ¬ K i ∧ i < w.heap.size) ∧ (∀ i, FD i → ¬ FR i)
theorem Two.disk {K : Nat → Prop} {w w' : World} {d x : Nat} {st' rst : St} {FD FR : Nat → Prop} (hR : RefAt FR w x rst) (b1 : ∀ i, FD i → ¬ K i ∧ i < w.heap.size) (b2 : ∀ i, FR i → ¬ K i ∧ i < w.heap.size) (b3 : ∀ i, FD i → ¬ FR i) (hK : ∀ i, K i → i < w.heap.size)
    (hD : DiskAt (fun i => FD i ∨ w.heap.size ≤ i) w' d st') (hF : Fr (fun i => FD i ∨ w.heap.size ≤ i) w w') : Two K w' d x st' rst ∧ Fr (fun i => ¬ K i) w w' := by
  refine ⟨⟨_, FR, hD.tight, hR.moved (fun i hi h => hF.keep i hi (by rintro (h1 | h1); exact b3 i h1 h; omega)), ?_, ?_, ?_⟩, ⟨hF.os, hF.tape, hF.output, hF.size, fun k hk hn => hF.keep k hk (by rintro (h1 | h1); exact hn (b1 k h1).1; omega)⟩⟩
  · intro i hi
    rcases hi.1 with h | h
    · exact ⟨(b1 i h).1, hi.2⟩
    · exact ⟨fun hk => by have := hK i hk; omega, hi.2⟩
  · intro i hi
    exact ⟨(b2 i hi).1, Nat.lt_of_lt_of_le (b2 i hi).2 hF.size⟩
  · intro i hi h2
    rcases hi.1 with h | h
    · exact b3 i h h2
    · have := (b2 i h2).2; omega
theorem Two.ref {K : Nat → Prop} {w w' : World} {d x : Nat} {st rst' : St} {FD FR : Nat → Prop} (hD : DiskAt FD w d st) (b1 : ∀ i, FD i → ¬ K i ∧ i < w.heap.size) (b2 : ∀ i, FR i → ¬ K i ∧ i < w.heap.size) (b3 : ∀ i, FD i → ¬ FR i) (hK : ∀ i, K i → i < w.heap.size)
    (hR : RefAt (fun i => FR i ∨ w.heap.size ≤ i) w' x rst') (hF : Fr (fun i => FR i ∨ w.heap.size ≤ i) w w') : Two K w' d x st rst' ∧ Fr (fun i => ¬ K i) w w' := by
  refine ⟨⟨FD, _, hD.moved (fun i hi h => hF.keep i hi (by rintro (h1 | h1); exact b3 i h h1; omega)), hR.tight, ?_, ?_, ?_⟩, ⟨hF.os, hF.tape, hF.output, hF.size, fun k hk hn => hF.keep k hk (by rintro (h1 | h1); exact hn (b2 k h1).1; omega)⟩⟩
  · intro i hi
    exact ⟨(b1 i hi).1, Nat.lt_of_lt_of_le (b1 i hi).2 hF.size⟩
  · intro i hi
    rcases hi.1 with h | h
    · exact ⟨(b2 i h).1, hi.2⟩
    · exact ⟨fun hk => by have := hK i hk; omega, hi.2⟩
  · intro i hi h2
    rcases h2.1 with h | h
    · exact b3 i hi h
    · have := (b1 i hi).2; omega
theorem Two.below {K : Nat → Prop} {w w' : World} {d x : Nat} {st rst : St} (h : Two K w d x st rst) (hb : Below w.heap.size w w') : Two K w' d x st rst := by
  obtain ⟨FD, FR, hD, hR, b1, b2, b3⟩ := h
  exact ⟨FD, FR, hD.below hb, hR.moved (fun i hi _ => hb.block i hi), fun i hi => ⟨(b1 i hi).1, Nat.lt_of_lt_of_le (b1 i hi).2 hb.size⟩, fun i hi => ⟨(b2 i hi).1, Nat.lt_of_lt_of_le (b2 i hi).2 hb.size⟩, b3⟩
section
variable (K : Nat → Prop) (d x : Nat) (st rst : St) (w : World) (h : Two K w d x st rst) (hK : ∀ i, K i → i < w.heap.size)
include h hK
theorem Two.Write (n : Int) (s : ByteArray) (hll : st.loose.length ≤ 10000) :
    Calls Try.prog 23 #[.pointer (some ⟨d, 0, none⟩), .int .i64 n, .string s] w fun e w' => e = .returned (.int .i64 (writes st n s).1) ∧ Two K w' d x (writes st n s).2 rst ∧ Fr (fun i => ¬ K i) w w' := by
  obtain ⟨FD, FR, hD, hR, b1, b2, b3⟩ := h
  refine (Write.calls FD d st n s w hD (by omega)).mono ?_
  rintro e w' ⟨rfl, h1, h2⟩
  exact ⟨rfl, Two.disk hR b1 b2 b3 hK h1 h2⟩
theorem Two.RWrite (n : Int) (s : ByteArray) (hll : rst.loose.length ≤ 10000) :
    Calls Try.prog 35 #[.pointer (some ⟨x, 0, none⟩), .int .i64 n, .string s] w fun e w' => e = .returned (.int .i64 (rwrites rst n s).1) ∧ Two K w' d x st (rwrites rst n s).2 ∧ Fr (fun i => ¬ K i) w w' := by
  obtain ⟨FD, FR, hD, hR, b1, b2, b3⟩ := h
  refine (RWrite.calls FR x rst n s w hR hll).mono ?_
  rintro e w' ⟨rfl, h1, h2⟩
  exact ⟨rfl, Two.ref hD b1 b2 b3 hK h1 h2⟩
theorem Two.Sync : Calls Try.prog 26 #[.pointer (some ⟨d, 0, none⟩)] w fun e w' => e = .returned (.int .i64 (if st.gone then 5 else 0)) ∧ Two K w' d x (if st.gone then st else { st with loose := [] }) rst ∧ Fr (fun i => ¬ K i) w w' := by
  obtain ⟨FD, FR, hD, hR, b1, b2, b3⟩ := h
  by_cases hg : st.gone = true
  · refine (Sync.no FD d st w hD hg).mono ?_
    rintro e w' ⟨rfl, rfl⟩
    rw [if_pos hg, if_pos hg]
    exact ⟨rfl, ⟨FD, FR, hD, hR, b1, b2, b3⟩, Fr.refl _ _⟩
  · refine (Sync.yes FD d st w hD (by simpa using hg)).mono ?_
    rintro e w' ⟨rfl, h1, h2⟩
    rw [if_neg hg, if_neg hg]
    exact ⟨rfl, Two.disk hR b1 b2 b3 hK h1 (h2.more (fun _ h => .inl h))⟩
theorem Two.RSync : Calls Try.prog 45 #[.pointer (some ⟨x, 0, none⟩)] w fun e w' => e = .returned (.int .i64 (if rst.gone then 5 else 0)) ∧ Two K w' d x st (if rst.gone then rst else { rst with loose := [] }) ∧ Fr (fun i => ¬ K i) w w' := by
  obtain ⟨FD, FR, hD, hR, b1, b2, b3⟩ := h
  refine (RSync.calls FR x rst w hR).mono ?_
  rintro e w' ⟨rfl, h1, h2⟩
  exact ⟨rfl, Two.ref hD b1 b2 b3 hK (h1.more (fun _ h => .inl h)) (h2.more (fun _ h => .inl h))⟩
theorem Two.Fuse (n : Int) (hn : n ≤ 9223372036854775807) : Calls Try.prog 25 #[.pointer (some ⟨d, 0, none⟩), .int .i64 n] w fun e w' => e = .returned (.tuple #[]) ∧ Two K w' d x { st with fuse := max (-1) n } rst ∧ Fr (fun i => ¬ K i) w w' := by
  obtain ⟨FD, FR, hD, hR, b1, b2, b3⟩ := h
  refine (Fuse.calls FD d st n hn w hD).mono ?_
  rintro e w' ⟨rfl, h1, h2⟩
  exact ⟨rfl, Two.disk hR b1 b2 b3 hK (h1.more (fun _ h => .inl h)) (h2.more (fun _ h => .inl h))⟩
theorem Two.rfuse (n : Int) (hn : -9223372036854775808 ≤ n ∧ n ≤ 9223372036854775807) : (w.frozen? ⟨x, 2, none⟩ = false ∧ ∃ v, w.cell? ⟨x, 2, none⟩ = some v) ∧ Two K (w.setCell ⟨x, 2, none⟩ (.int .i64 n)) d x st { rst with fuse := n } ∧ Fr (fun i => ¬ K i) w (w.setCell ⟨x, 2, none⟩ (.int .i64 n)) := by
  obtain ⟨FD, FR, hD, hR, b1, b2, b3⟩ := h
  have hx := hR.Fx
  refine ⟨?_, Two.ref hD b1 b2 b3 hK ((hR.fuse n hn).more (fun _ h => .inl h)) (((Fr.refl FR w).set (p := ⟨x, 2, none⟩) hx _).more (fun _ h => .inl h))⟩
  obtain ⟨sv, lv, hx, _⟩ := hR
  exact ⟨blk_frozen hx 2, _, (blk_cell hx 2).trans rfl⟩
theorem Two.Crash (Ak : Option Addr) (ck : Nat) (ks : List Int) (hk : RowA w (fun i => ¬ K i) Ak ks) (hll : st.loose.length ≤ 10000) :
    Calls Try.prog 28 #[.pointer (some ⟨d, 0, none⟩), .slice Ak ks.length ck] w fun e w' => e = .returned (.tuple #[]) ∧ Two K w' d x { now := crashN st.loose ks st.now st.loose.length, loose := [], fuse := -1, gone := false } rst ∧ Fr (fun i => ¬ K i) w w' := by
  obtain ⟨FD, FR, hD, hR, b1, b2, b3⟩ := h
  refine (Crash.calls FD d st Ak ck ks w hD (hk.moved (fun _ _ _ => rfl) (fun i _ h1 h2 => h1 (b1 i h2).1)) (by omega)).mono ?_
  rintro e w' ⟨rfl, h1, h2⟩
  exact ⟨rfl, Two.disk hR b1 b2 b3 hK h1 h2⟩
theorem Two.RCrash (Ak : Option Addr) (ck : Nat) (ks : List Int) (hk : RowA w (fun i => ¬ K i) Ak ks) (hll : rst.loose.length ≤ 10000) :
    Calls Try.prog 46 #[.pointer (some ⟨x, 0, none⟩), .slice Ak ks.length ck] w fun e w' => e = .returned (.tuple #[]) ∧ Two K w' d x st { now := rcrash rst.loose ks rst.now rst.loose.length, loose := [], fuse := -1, gone := false } ∧ Fr (fun i => ¬ K i) w w' := by
  obtain ⟨FD, FR, hD, hR, b1, b2, b3⟩ := h
  refine (RCrash.calls FR x rst Ak ck ks w hR (hk.moved (fun _ _ _ => rfl) (fun i _ h1 h2 => h1 (b2 i h2).1)) hll).mono ?_
  rintro e w' ⟨rfl, h1, h2⟩
  exact ⟨rfl, Two.ref hD b1 b2 b3 hK (h1.more (fun _ h => .inl h)) (h2.more (fun _ h => .inl h))⟩
end
theorem Two.Read (K : Nat → Prop) (d x : Nat) (st rst : St) (w : World) (h : Two K w d x st rst) (n : Int) : Calls Try.prog 24 #[.pointer (some ⟨d, 0, none⟩), .int .i64 n] w fun e w' => e = .returned (.tuple #[.string (reads st n).1, .int .i64 (reads st n).2]) ∧ w = w' := by
  obtain ⟨FD, FR, hD, hR, b1, b2, b3⟩ := h
  exact Read.calls FD d st n w hD
theorem Two.RRead (K : Nat → Prop) (d x : Nat) (st rst : St) (w : World) (h : Two K w d x st rst) (n : Int) : Calls Try.prog 47 #[.pointer (some ⟨x, 0, none⟩), .int .i64 n] w fun e w' => e = .returned (.tuple #[.string (reads rst n).1, .int .i64 (reads rst n).2]) ∧ w = w' := by
  obtain ⟨FD, FR, hD, hR, b1, b2, b3⟩ := h
  exact RRead.calls FR x rst n w hR
theorem Two.more {K K' : Nat → Prop} {w : World} {d x : Nat} {st rst : St} (h : Two K w d x st rst) (hK : ∀ i, i < w.heap.size → K' i → K i) : Two K' w d x st rst := by
  obtain ⟨FD, FR, hD, hR, b1, b2, b3⟩ := h
  exact ⟨FD, FR, hD, hR, fun i hi => ⟨fun hk => (b1 i hi).1 (hK i (b1 i hi).2 hk), (b1 i hi).2⟩, fun i hi => ⟨fun hk => (b2 i hi).1 (hK i (b2 i hi).2 hk), (b2 i hi).2⟩, b3⟩
/-- A new block of the caller's. -/
theorem Two.alloc {K : Nat → Prop} {w : World} {d x : Nat} {st rst : St} (h : Two K w d x st rst) (o : Obj) : Two (fun i => K i ∨ i = w.heap.size) (w.alloc o) d x st rst := by
  have h2 : Two (fun i => K i ∨ i = w.heap.size) w d x st rst := h.more (fun i hi hk => by rcases hk with h | h; exact h; omega)
  exact h2.below ((Below.refl w.heap.size w).alloc (Nat.le_refl _) o)
/-- The states are alike. -/
structure Alike (st : St) (rf : Int) (i : Nat) : Prop where
  fuse : st.fuse = max (-1) rf
  rf : -9223372036854775808 ≤ rf ∧ rf ≤ 9223372036854775807
  keys : (st.loose.map (·.1)).Nodup
  len : st.loose.length ≤ i
def withF (st : St) (rf : Int) : St := { st with fuse := rf }
theorem alike_write {st : St} {rf : Int} {i : Nat} (h : Alike st rf i) (n : Int) (s : ByteArray) :
    ∃ st' rf', (rwrites (withF st rf) n s).1 = (writes st n s).1 ∧ (writes st n s).2 = st' ∧ (rwrites (withF st rf) n s).2 = withF st' rf' ∧ Alike st' rf' (i + 1) := by
  have hf := h.fuse
  have hr := h.rf
  have same : ∀ b : Bool, Alike { st with gone := b } rf (i + 1) := fun b => ⟨h.fuse, h.rf, h.keys, Nat.le_succ_of_le h.len⟩
  cases hg : st.gone with
  | true =>
    have e1 : writes st n s = (5, st) := by unfold writes; rw [hg, if_pos rfl]
    have e2 : rwrites (withF st rf) n s = (5, withF st rf) := by unfold rwrites withF; dsimp only; rw [hg, if_pos rfl]
    rw [e1, e2]
    exact ⟨st, rf, rfl, rfl, rfl, ⟨h.fuse, h.rf, h.keys, Nat.le_succ_of_le h.len⟩⟩
  | false =>
    by_cases h1 : n < 0 ∨ (st.now.length : Int) ≤ n
    · have e1 : writes st n s = (1, st) := by unfold writes; rw [hg, if_neg (by decide), if_pos h1]
      have e2 : rwrites (withF st rf) n s = (1, withF st rf) := by unfold rwrites withF; dsimp only; rw [hg, if_neg (by decide), if_pos h1]
      rw [e1, e2]
      exact ⟨st, rf, rfl, rfl, rfl, ⟨h.fuse, h.rf, h.keys, Nat.le_succ_of_le h.len⟩⟩
    · by_cases hs : s.size = 256
      · by_cases h0 : rf = 0
        · have e1 : writes st n s = (5, { st with gone := true }) := by unfold writes; rw [hg, if_neg (by decide), if_neg h1, if_neg (by omega), if_pos (by omega)]
          have e2 : rwrites (withF st rf) n s = (5, withF { st with gone := true } rf) := by unfold rwrites withF; dsimp only; rw [hg, if_neg (by decide), if_neg h1, if_neg (by omega), if_pos h0]
          rw [e1, e2]
          exact ⟨_, rf, rfl, rfl, rfl, same true⟩
        · have e1 := writes_ok st n s hg (by omega) (by omega) hs (by omega)
          have e2 : rwrites (withF st rf) n s = (0, withF { st with fuse := max (-1) (st.fuse - 1), loose := if hasS st.loose n then st.loose else st.loose ++ [(n, st.now.getD n.toNat ⟨#[]⟩)], now := st.now.set n.toNat s } (if 0 < rf then rf - 1 else rf)) := by
            unfold rwrites withF
            dsimp only
            rw [hg, if_neg (by decide), if_neg h1, if_neg (by omega), if_neg h0]
          rw [e1, e2]
          refine ⟨_, _, rfl, rfl, rfl, ⟨?_, ?_, ?_, ?_⟩⟩
          · show max (-1) (st.fuse - 1) = max (-1) (if 0 < rf then rf - 1 else rf)
            split <;> omega
          · split <;> omega
          · show (List.map _ (if _ then _ else _ : List (Int × ByteArray))).Nodup
            cases hb : hasS st.loose n with
            | true => rw [if_pos rfl]; exact h.keys
            | false =>
              rw [if_neg (by decide), List.map_append, List.map_singleton]
              refine List.nodup_append.2 ⟨h.keys, by simp, ?_⟩
              intro a ha b hb2 e
              obtain ⟨p, hp, rfl⟩ := List.mem_map.1 ha
              rw [List.mem_singleton.1 hb2] at e
              exact hasS_mem _ _ hb p hp e
          · show (if _ then _ else _ : List (Int × ByteArray)).length ≤ i + 1
            have := h.len
            split
            · omega
            · rw [List.length_append, List.length_singleton]; omega
      · have e1 : writes st n s = (1, st) := by unfold writes; rw [hg, if_neg (by decide), if_neg h1, if_pos hs]
        have e2 : rwrites (withF st rf) n s = (1, withF st rf) := by unfold rwrites withF; dsimp only; rw [hg, if_neg (by decide), if_neg h1, if_pos hs]
        rw [e1, e2]
        exact ⟨st, rf, rfl, rfl, rfl, ⟨h.fuse, h.rf, h.keys, Nat.le_succ_of_le h.len⟩⟩
theorem alike_crash {st : St} {rf : Int} {i : Nat} (h : Alike st rf i) (ks : List Int) (j : Nat) :
    ({ now := rcrash (withF st rf).loose ks (withF st rf).now (withF st rf).loose.length, loose := [], fuse := -1, gone := false } : St) = withF { now := crashN st.loose ks st.now st.loose.length, loose := [], fuse := -1, gone := false } (-1) ∧ Alike { now := crashN st.loose ks st.now st.loose.length, loose := [], fuse := -1, gone := false } (-1) j := by
  refine ⟨?_, ⟨(by decide : (-1 : Int) = max (-1) (-1)), (by decide : (-9223372036854775808 : Int) ≤ -1 ∧ (-1 : Int) ≤ 9223372036854775807), List.nodup_nil, Nat.zero_le _⟩⟩
  show ({ now := rcrash st.loose ks st.now st.loose.length, loose := [], fuse := -1, gone := false } : St) = _
  rw [rcrash_eq _ _ _ h.keys _ (Nat.le_refl _)]
  rfl
theorem alike_read (st : St) (rf n : Int) : reads (withF st rf) n = reads st n := rfl
/-- What lies beside both disks: the box of the deed, and the blocks Kp. -/
structure Ctx (Kp : Nat → Prop) (bu : Nat) (cells : Array Value) (w W : World) : Prop where
  bx : W.heap[bu]? = some (.cells cells 64 (0, 0))
  kq : ∀ q, (Kp q ∨ q = bu) → q < W.heap.size
  fr : Fr (fun q => ¬ Kp q) w W
theorem Ctx.step {Kp : Nat → Prop} {bu : Nat} {cells : Array Value} {w W W' : World} (h : Ctx Kp bu cells w W) (hf : Fr (fun q => ¬ (Kp q ∨ q = bu)) W W') : Ctx Kp bu cells w W' :=
  ⟨(hf.keep bu (blk_lt h.bx) (fun hn => hn (.inr rfl))).trans h.bx, fun q hq => Nat.lt_of_lt_of_le (h.kq q hq) hf.size, h.fr.trans (hf.more (fun q hn hk => hn (.inl hk)))⟩
theorem Ctx.below {Kp : Nat → Prop} {bu : Nat} {cells : Array Value} {w W W' : World} (h : Ctx Kp bu cells w W) (hb : Below W.heap.size W W') : Ctx Kp bu cells w W' :=
  ⟨(hb.block bu (blk_lt h.bx)).trans h.bx, fun q hq => Nat.lt_of_lt_of_le (h.kq q hq) hb.size, h.fr.trans ⟨hb.os, hb.tape, hb.output, hb.size, fun q hq _ => hb.block q hq⟩⟩
theorem Ctx.drew {Kp : Nat → Prop} {bu : Nat} {cells : Array Value} {w W : World} (h : Ctx Kp bu cells w W) : Ctx Kp bu cells w W.drew := ⟨h.bx, h.kq, h.fr.drewN 1⟩
theorem Two.drew {K : Nat → Prop} {w : World} {d x : Nat} {st rst : St} (h : Two K w d x st rst) : Two K w.drew d x st rst := h.below (below_drew (Below.refl _ _))
theorem rem7 (m : Nat) : ((m : Int) % 7 = 0) ∨ ((m : Int) % 7 = 1) ∨ ((m : Int) % 7 = 2) ∨ ((m : Int) % 7 = 3) ∨ ((m : Int) % 7 = 4) ∨ ((m : Int) % 7 = 5) ∨ ((m : Int) % 7 = 6) := by omega
theorem tmod7 (m : Nat) : Int.tmod (m : Int) 7 = (m : Int) % 7 := rfl
theorem natOf (a : Int) (h : -9223372036854775808 ≤ a ∧ a ≤ 9223372036854775807) : ∃ m : Nat, (a < 0 → wrap64 (-wrap64 (a + 1)) = (m : Int)) ∧ (0 ≤ a → a = (m : Int)) := by
  by_cases hn : a < 0
  · exact ⟨(-(a + 1)).toNat, fun _ => by unfold wrap64; omega, fun h => absurd hn (by omega)⟩
  · exact ⟨a.toNat, fun h => absurd h hn, fun _ => by omega⟩
set_option maxHeartbeats 2000000 in
set_option maxRecDepth 100000 in
theorem does.calls (Kp : Nat → Prop) (d x : Nat) (st : St) (rf : Int) (i : Nat) (w : World) (k at_ n : Int) (s : ByteArray) (Ak : Option Addr) (ck : Nat) (ks : List Int) (h : Two Kp w d x st (withF st rf)) (ha : Alike st rf i) (hi : i ≤ 9000)
    (hKp : ∀ q, Kp q → q < w.heap.size) (hkb : -9223372036854775808 ≤ k ∧ k ≤ 9223372036854775807) (hnb : -9223372036854775808 ≤ n ∧ n ≤ 9223372036854775807) (hrow : RowA w (fun q => ¬ Kp q) Ak ks) :
    Calls Try.prog 32 #[.pointer (some ⟨d, 0, none⟩), .pointer (some ⟨x, 0, none⟩), .agg #[.int .i64 k, .int .i64 at_, .string s, .int .i64 n, .slice Ak ks.length ck]] w fun e w' => e = .returned (.bool true) ∧ (∃ st' rf', Two Kp w' d x st' (withF st' rf') ∧ Alike st' rf' (i + 1)) ∧ Fr (fun q => ¬ Kp q) w w' := by
  obtain ⟨m, hm0, hm1⟩ := natOf k hkb
  replace hm0 := hid (And.intro hm0 hm1)
  have hF := hid (fun (a : ByteArray) (W : World) => fill.calls a W)
  generalize fillB = f at *
  have hT : Hid (Two (fun q => Kp q ∨ q = w.heap.size) (w.alloc (.cells #[.int .i64 k, .int .i64 at_, .string s, .int .i64 n, .slice Ak ks.length ck] 64)) d x st (withF st rf)) := hid (h.alloc _)
  have hX : Hid (Ctx Kp w.heap.size #[.int .i64 k, .int .i64 at_, .string s, .int .i64 n, .slice Ak ks.length ck] w (w.alloc (.cells #[.int .i64 k, .int .i64 at_, .string s, .int .i64 n, .slice Ak ks.length ck] 64))) :=
    hid ⟨Array.getElem?_push_size, fun q hq => by rcases hq with hq | hq; have := hKp q hq; simp; omega; rw [hq]; simp, (Fr.refl _ w).alloc _⟩
  have hrw : Hid (RowA (w.alloc (.cells #[.int .i64 k, .int .i64 at_, .string s, .int .i64 n, .slice Ak ks.length ck] 64)) (fun q => ¬ (Kp q ∨ q = w.heap.size)) Ak ks) := hid (hrow.moved (fun q hq _ => Below.heap_alloc w _ q hq) (fun q _ hq h2 => hq (fun hk => h2 (.inl hk))))
  replace ha := hid ha
  have hll : Hid (st.loose.length ≤ 9000) := hid (Nat.le_trans ha.out.len hi)
  have hwn := hid (fun y => alike_write ha.out at_ y)
  replace hnb := hid hnb
  clear h hKp hrow hi hkb hm1
  go_enter Try.func32, Try.ntmps32
  (try dsimp only [List.append])
  go_upto_region 1 with fail
  generalize (w.alloc (.cells #[.int .i64 k, .int .i64 at_, .string s, .int .i64 n, .slice Ak ks.length ck] 64)) = wA at *
  generalize w.heap.size = bu at *
  have c0 : wA.cell? ⟨bu, 0, none⟩ = some (.int .i64 k) := (blk_cell hX.out.bx 0).trans rfl
  have c1 : wA.cell? ⟨bu, 1, none⟩ = some (.int .i64 at_) := (blk_cell hX.out.bx 1).trans rfl
  have c2 : wA.cell? ⟨bu, 2, none⟩ = some (.string s) := (blk_cell hX.out.bx 2).trans rfl
  have c3 : wA.cell? ⟨bu, 3, none⟩ = some (.int .i64 n) := (blk_cell hX.out.bx 3).trans rfl
  have c4 : wA.cell? ⟨bu, 4, none⟩ = some (.slice Ak ks.length ck) := (blk_cell hX.out.bx 4).trans rfl
  by_cases h0 : k < 0
  all_goals
    go_upto_region 5 with fail
    (first | rw [hm0.out.1 h0] | (have e := hm0.out.2 (by omega); subst e))
    clear hm0
    (try clear h0)
    rcases rem7 m with hc | hc | hc | hc | hc | hc | hc
    all_goals ((first | rw [hc] | rw [tmod7, hc]); clear hc)
    · obtain ⟨st1, rf1, e1, e2, e3, ha1⟩ := hwn.out (f s)
      have hW : Hid (∀ W, Two (fun q => Kp q ∨ q = bu) W d x st (withF st rf) → (∀ q, (Kp q ∨ q = bu) → q < W.heap.size) → Calls Try.prog 23 #[.pointer (some ⟨d, 0, none⟩), .int .i64 at_, .string (f s)] W fun e w' => e = .returned (.int .i64 (writes st at_ (f s)).1) ∧ Two (fun q => Kp q ∨ q = bu) w' d x st1 (withF st rf) ∧ Fr (fun q => ¬ (Kp q ∨ q = bu)) W w') := hid (fun W hT hK => by
        have h := Two.Write _ d x st (withF st rf) W hT hK at_ (f s) (by have := hll.out; omega)
        rw [e2] at h
        exact h)
      have hRW : Hid (∀ W, Two (fun q => Kp q ∨ q = bu) W d x st1 (withF st rf) → (∀ q, (Kp q ∨ q = bu) → q < W.heap.size) → Calls Try.prog 35 #[.pointer (some ⟨x, 0, none⟩), .int .i64 at_, .string (f s)] W fun e w' => e = .returned (.int .i64 (writes st at_ (f s)).1) ∧ Two (fun q => Kp q ∨ q = bu) w' d x st1 (withF st1 rf1) ∧ Fr (fun q => ¬ (Kp q ∨ q = bu)) W w') := hid (fun W hT hK => by
        have h := Two.RWrite _ d x st1 (withF st rf) W hT hK at_ (f s) (Nat.le_trans hll.out (by decide))
        rw [e1, e3] at h
        exact h)
      replace ha1 := hid ha1
      clear e1 e2 e3
      generalize (writes st at_ (f s)).1 = r at *
      go_upto_region 7 with fail
      refine start_ (n := 16) (S := fun w' => w'.cell? ⟨bu, 1, none⟩ = some (.int .i64 at_) ∧ w'.cell? ⟨bu, 2, none⟩ = some (.string s)) (ds := [13]) #[false, false, false, false, false, false, false, false, false, false, false, false, false, false, false, false] (by kernel_rfl) rfl rfl ⟨(blk_cell hX.out.bx 1).trans rfl, (blk_cell hX.out.bx 2).trans rfl⟩ (fun hHeld => ?_)
      refine pure_ (i := 0) (N := some 24) (v := ?_) (a' := ?_) #[true, false, false, false, false, false, false, false, false, false, false, false, false, false, false, false] rfl rfl (by kernel_rfl) (fun _ _ _ h => h) (Or.inl ⟨by rfl, ?_⟩) ?_ ?_
      rotate_left
      · intro w'
        go_simp
        with_reducible rfl
      rotate_left
      · simp only [Act.put, List.setIfInBounds_toArray, List.set_cons_zero, List.set_cons_succ, i64_w, i32_w]
        rfl
      refine pure_ (i := 1) (N := some 25) (v := ?_) (a' := ?_) #[true, true, false, false, false, false, false, false, false, false, false, false, false, false, false, false] rfl rfl (by kernel_rfl) (fun _ _ _ h => h) (Or.inl ⟨by rfl, ?_⟩) ?_ ?_
      rotate_left
      · intro w'
        go_simp
        with_reducible rfl
      rotate_left
      · simp only [Act.put, List.setIfInBounds_toArray, List.set_cons_zero, List.set_cons_succ, i64_w, i32_w]
        rfl
      refine take_ (i := 2) (N := some 26) (v := ?_) (a' := ?_) #[true, true, true, false, false, false, false, false, false, false, false, false, false, false, false, false] rfl rfl (by kernel_rfl) (fun _ _ _ h => h) (Or.inl ⟨by rfl, ?_⟩) hHeld ?_ ?_
      rotate_left
      · rintro w' ⟨c1, c2⟩
        go_simp
        with_reducible rfl
      rotate_left
      · simp only [Act.put, List.setIfInBounds_toArray, List.set_cons_zero, List.set_cons_succ, i64_w, i32_w]
        rfl
      refine pure_ (i := 3) (N := some 27) (v := ?_) (a' := ?_) #[true, true, true, true, false, false, false, false, false, false, false, false, false, false, false, false] rfl rfl (by kernel_rfl) (fun _ _ _ h => h) (Or.inl ⟨by rfl, ?_⟩) ?_ ?_
      rotate_left
      · intro w'
        go_simp
        with_reducible rfl
      rotate_left
      · simp only [Act.put, List.setIfInBounds_toArray, List.set_cons_zero, List.set_cons_succ, i64_w, i32_w]
        rfl
      refine take_ (i := 4) (N := some 28) (v := ?_) (a' := ?_) #[true, true, true, true, true, false, false, false, false, false, false, false, false, false, false, false] rfl rfl (by kernel_rfl) (fun _ _ _ h => h) (Or.inl ⟨by rfl, ?_⟩) hHeld ?_ ?_
      rotate_left
      · rintro w' ⟨c1, c2⟩
        go_simp
        with_reducible rfl
      rotate_left
      · simp only [Act.put, List.setIfInBounds_toArray, List.set_cons_zero, List.set_cons_succ, i64_w, i32_w]
        rfl
      refine pure_ (i := 7) (N := some 31) (v := ?_) (a' := ?_) #[true, true, true, true, true, false, false, true, false, false, false, false, false, false, false, false] rfl rfl (by kernel_rfl) (fun _ _ _ h => h) (Or.inl ⟨by rfl, ?_⟩) ?_ ?_
      rotate_left
      · intro w'
        go_simp
        with_reducible rfl
      rotate_left
      · simp only [Act.put, List.setIfInBounds_toArray, List.set_cons_zero, List.set_cons_succ, i64_w, i32_w]
        rfl
      refine pure_ (i := 8) (N := some 32) (v := ?_) (a' := ?_) #[true, true, true, true, true, false, false, true, true, false, false, false, false, false, false, false] rfl rfl (by kernel_rfl) (fun _ _ _ h => h) (Or.inl ⟨by rfl, ?_⟩) ?_ ?_
      rotate_left
      · intro w'
        go_simp
        with_reducible rfl
      rotate_left
      · simp only [Act.put, List.setIfInBounds_toArray, List.set_cons_zero, List.set_cons_succ, i64_w, i32_w]
        rfl
      refine take_ (i := 9) (N := some 33) (v := ?_) (a' := ?_) #[true, true, true, true, true, false, false, true, true, true, false, false, false, false, false, false] rfl rfl (by kernel_rfl) (fun _ _ _ h => h) (Or.inl ⟨by rfl, ?_⟩) hHeld ?_ ?_
      rotate_left
      · rintro w' ⟨c1, c2⟩
        go_simp
        with_reducible rfl
      rotate_left
      · simp only [Act.put, List.setIfInBounds_toArray, List.set_cons_zero, List.set_cons_succ, i64_w, i32_w]
        rfl
      refine pure_ (i := 10) (N := some 34) (v := ?_) (a' := ?_) #[true, true, true, true, true, false, false, true, true, true, true, false, false, false, false, false] rfl rfl (by kernel_rfl) (fun _ _ _ h => h) (Or.inl ⟨by rfl, ?_⟩) ?_ ?_
      rotate_left
      · intro w'
        go_simp
        with_reducible rfl
      rotate_left
      · simp only [Act.put, List.setIfInBounds_toArray, List.set_cons_zero, List.set_cons_succ, i64_w, i32_w]
        rfl
      refine take_ (i := 11) (N := some 35) (v := ?_) (a' := ?_) #[true, true, true, true, true, false, false, true, true, true, true, true, false, false, false, false] rfl rfl (by kernel_rfl) (fun _ _ _ h => h) (Or.inl ⟨by rfl, ?_⟩) hHeld ?_ ?_
      rotate_left
      · rintro w' ⟨c1, c2⟩
        go_simp
        with_reducible rfl
      rotate_left
      · simp only [Act.put, List.setIfInBounds_toArray, List.set_cons_zero, List.set_cons_succ, i64_w, i32_w]
        rfl
      refine one_ (i := 5) (N := some 29) #[true, true, true, true, true, true, false, true, true, true, true, true, false, false, false, false] rfl rfl (by kernel_rfl) (by decide) (fun K hK => ?_)
      refine goes_ Try.func22 (by kernel_rfl) rfl #[Value.string s] (by rfl) rfl rfl (by (try simp only [List.map_toArray, List.map_cons, List.map_nil]); first | done | rfl) ?_
      refine (hF.out s wA.drew).mono ?_
      rintro e w4 ⟨rfl, hb4⟩
      have hX4 := hid (hX.out.drew.below hb4)
      have hT4 := hid (hT.out.drew.below hb4)
      clear hb4
      refine ⟨_, rfl, ?_⟩
      refine hK.out _ _ ⟨(blk_cell hX4.out.bx 1).trans rfl, (blk_cell hX4.out.bx 2).trans rfl⟩ (fun hHeld => ?_)
      clear hK K
      refine norm_ (a' := ?_) ?_ ?_
      rotate_left
      · show Act.put _ (some 29) _ = _
        simp only [Act.put, List.setIfInBounds_toArray, List.set_cons_zero, List.set_cons_succ, i64_w, i32_w]
        rfl
      refine one_ (i := 6) (N := some 30) #[true, true, true, true, true, true, true, true, true, true, true, true, false, false, false, false] rfl rfl (by kernel_rfl) (by decide) (fun K hK => ?_)
      refine goes_ Try.func23 (by kernel_rfl) rfl #[Value.pointer (some ⟨d, 0, none⟩), Value.int .i64 at_, Value.string (f s)] (by rfl) rfl rfl (by (try simp only [List.map_toArray, List.map_cons, List.map_nil]); first | done | rfl) ?_
      refine (hW.out w4 hT4.out hX4.out.kq).mono ?_
      rintro e w5 ⟨rfl, hT5, hf5⟩
      have hX5 := hid (hX4.out.step hf5)
      replace hT5 := hid hT5
      clear hf5
      refine ⟨_, rfl, ?_⟩
      refine hK.out _ _ ⟨(blk_cell hX5.out.bx 1).trans rfl, (blk_cell hX5.out.bx 2).trans rfl⟩ (fun hHeld => ?_)
      clear hK K
      refine norm_ (a' := ?_) ?_ ?_
      rotate_left
      · show Act.put _ (some 30) _ = _
        simp only [Act.put, List.setIfInBounds_toArray, List.set_cons_zero, List.set_cons_succ, i64_w, i32_w]
        rfl
      refine one_ (i := 12) (N := some 36) #[true, true, true, true, true, true, true, true, true, true, true, true, true, false, false, false] rfl rfl (by kernel_rfl) (by decide) (fun K hK => ?_)
      refine goes_ Try.func22 (by kernel_rfl) rfl #[Value.string s] (by rfl) rfl rfl (by (try simp only [List.map_toArray, List.map_cons, List.map_nil]); first | done | rfl) ?_
      refine (hF.out s w5).mono ?_
      rintro e w6 ⟨rfl, hb6⟩
      have hX6 := hid (hX5.out.below hb6)
      have hT6 := hid (hT5.out.below hb6)
      clear hb6
      refine ⟨_, rfl, ?_⟩
      refine hK.out _ _ ⟨(blk_cell hX6.out.bx 1).trans rfl, (blk_cell hX6.out.bx 2).trans rfl⟩ (fun hHeld => ?_)
      clear hK K
      refine norm_ (a' := ?_) ?_ ?_
      rotate_left
      · show Act.put _ (some 36) _ = _
        simp only [Act.put, List.setIfInBounds_toArray, List.set_cons_zero, List.set_cons_succ, i64_w, i32_w]
        rfl
      refine last_ (i := 13) (N := some 37) #[true, true, true, true, true, true, true, true, true, true, true, true, true, true, false, false] rfl rfl (by kernel_rfl) (by decide) (fun K hK => ?_)
      refine goes_ Try.func35 (by kernel_rfl) rfl #[Value.pointer (some ⟨x, 0, none⟩), Value.int .i64 at_, Value.string (f s)] (by rfl) rfl rfl (by (try simp only [List.map_toArray, List.map_cons, List.map_nil]); first | done | rfl) ?_
      refine (hRW.out w6 hT6.out hX6.out.kq).mono ?_
      rintro e w7 ⟨rfl, hT7, hf7⟩
      have hX7 := hid (hX6.out.step hf7)
      replace hT7 := hid hT7
      clear hf7
      refine ⟨_, rfl, ?_⟩
      refine hK.out _ _ ?_
      clear hK K
      refine norm_ (a' := ?_) ?_ ?_
      rotate_left
      · show Act.put _ (some 37) _ = _
        simp only [Act.put, List.setIfInBounds_toArray, List.set_cons_zero, List.set_cons_succ, i64_w, i32_w]
        rfl
      refine pure_ (i := 14) (N := some 38) (v := ?_) (a' := ?_) #[true, true, true, true, true, true, true, true, true, true, true, true, true, true, true, false] rfl rfl (by kernel_rfl) (fun _ _ _ h => h) (Or.inl ⟨by rfl, ?_⟩) ?_ ?_
      rotate_left
      · intro w'
        go_simp
        with_reducible rfl
      rotate_left
      · simp only [Act.put, List.setIfInBounds_toArray, List.set_cons_zero, List.set_cons_succ, i64_w, i32_w]
        rfl
      refine pure_ (i := 15) (N := some 6) (v := ?_) (a' := ?_) #[true, true, true, true, true, true, true, true, true, true, true, true, true, true, true, true] rfl rfl (by kernel_rfl) (fun _ _ _ h => h) (Or.inl ⟨by rfl, ?_⟩) ?_ ?_
      rotate_left
      · intro w'
        go_simp
        with_reducible rfl
      rotate_left
      · simp only [Act.put, List.setIfInBounds_toArray, List.set_cons_zero, List.set_cons_succ, i64_w, i32_w]
        rfl
      refine done_ (by kernel_rfl) ?_
      go_wp2_with fail
      go_ret
      exact ⟨rfl, ⟨st1, rf1, hT7.out.more (fun q _ hq => .inl hq), ha1.out⟩, hX7.out.fr⟩
    · obtain ⟨st1, rf1, e1, e2, e3, ha1⟩ := hwn.out (f s)
      have hW : Hid (∀ W, Two (fun q => Kp q ∨ q = bu) W d x st (withF st rf) → (∀ q, (Kp q ∨ q = bu) → q < W.heap.size) → Calls Try.prog 23 #[.pointer (some ⟨d, 0, none⟩), .int .i64 at_, .string (f s)] W fun e w' => e = .returned (.int .i64 (writes st at_ (f s)).1) ∧ Two (fun q => Kp q ∨ q = bu) w' d x st1 (withF st rf) ∧ Fr (fun q => ¬ (Kp q ∨ q = bu)) W w') := hid (fun W hT hK => by
        have h := Two.Write _ d x st (withF st rf) W hT hK at_ (f s) (by have := hll.out; omega)
        rw [e2] at h
        exact h)
      have hRW : Hid (∀ W, Two (fun q => Kp q ∨ q = bu) W d x st1 (withF st rf) → (∀ q, (Kp q ∨ q = bu) → q < W.heap.size) → Calls Try.prog 35 #[.pointer (some ⟨x, 0, none⟩), .int .i64 at_, .string (f s)] W fun e w' => e = .returned (.int .i64 (writes st at_ (f s)).1) ∧ Two (fun q => Kp q ∨ q = bu) w' d x st1 (withF st1 rf1) ∧ Fr (fun q => ¬ (Kp q ∨ q = bu)) W w') := hid (fun W hT hK => by
        have h := Two.RWrite _ d x st1 (withF st rf) W hT hK at_ (f s) (Nat.le_trans hll.out (by decide))
        rw [e1, e3] at h
        exact h)
      replace ha1 := hid ha1
      clear e1 e2 e3
      generalize (writes st at_ (f s)).1 = r at *
      go_upto_region 7 with fail
      refine start_ (n := 16) (S := fun w' => w'.cell? ⟨bu, 1, none⟩ = some (.int .i64 at_) ∧ w'.cell? ⟨bu, 2, none⟩ = some (.string s)) (ds := [13]) #[false, false, false, false, false, false, false, false, false, false, false, false, false, false, false, false] (by kernel_rfl) rfl rfl ⟨(blk_cell hX.out.bx 1).trans rfl, (blk_cell hX.out.bx 2).trans rfl⟩ (fun hHeld => ?_)
      refine pure_ (i := 0) (N := some 24) (v := ?_) (a' := ?_) #[true, false, false, false, false, false, false, false, false, false, false, false, false, false, false, false] rfl rfl (by kernel_rfl) (fun _ _ _ h => h) (Or.inl ⟨by rfl, ?_⟩) ?_ ?_
      rotate_left
      · intro w'
        go_simp
        with_reducible rfl
      rotate_left
      · simp only [Act.put, List.setIfInBounds_toArray, List.set_cons_zero, List.set_cons_succ, i64_w, i32_w]
        rfl
      refine pure_ (i := 1) (N := some 25) (v := ?_) (a' := ?_) #[true, true, false, false, false, false, false, false, false, false, false, false, false, false, false, false] rfl rfl (by kernel_rfl) (fun _ _ _ h => h) (Or.inl ⟨by rfl, ?_⟩) ?_ ?_
      rotate_left
      · intro w'
        go_simp
        with_reducible rfl
      rotate_left
      · simp only [Act.put, List.setIfInBounds_toArray, List.set_cons_zero, List.set_cons_succ, i64_w, i32_w]
        rfl
      refine take_ (i := 2) (N := some 26) (v := ?_) (a' := ?_) #[true, true, true, false, false, false, false, false, false, false, false, false, false, false, false, false] rfl rfl (by kernel_rfl) (fun _ _ _ h => h) (Or.inl ⟨by rfl, ?_⟩) hHeld ?_ ?_
      rotate_left
      · rintro w' ⟨c1, c2⟩
        go_simp
        with_reducible rfl
      rotate_left
      · simp only [Act.put, List.setIfInBounds_toArray, List.set_cons_zero, List.set_cons_succ, i64_w, i32_w]
        rfl
      refine pure_ (i := 3) (N := some 27) (v := ?_) (a' := ?_) #[true, true, true, true, false, false, false, false, false, false, false, false, false, false, false, false] rfl rfl (by kernel_rfl) (fun _ _ _ h => h) (Or.inl ⟨by rfl, ?_⟩) ?_ ?_
      rotate_left
      · intro w'
        go_simp
        with_reducible rfl
      rotate_left
      · simp only [Act.put, List.setIfInBounds_toArray, List.set_cons_zero, List.set_cons_succ, i64_w, i32_w]
        rfl
      refine take_ (i := 4) (N := some 28) (v := ?_) (a' := ?_) #[true, true, true, true, true, false, false, false, false, false, false, false, false, false, false, false] rfl rfl (by kernel_rfl) (fun _ _ _ h => h) (Or.inl ⟨by rfl, ?_⟩) hHeld ?_ ?_
      rotate_left
      · rintro w' ⟨c1, c2⟩
        go_simp
        with_reducible rfl
      rotate_left
      · simp only [Act.put, List.setIfInBounds_toArray, List.set_cons_zero, List.set_cons_succ, i64_w, i32_w]
        rfl
      refine pure_ (i := 7) (N := some 31) (v := ?_) (a' := ?_) #[true, true, true, true, true, false, false, true, false, false, false, false, false, false, false, false] rfl rfl (by kernel_rfl) (fun _ _ _ h => h) (Or.inl ⟨by rfl, ?_⟩) ?_ ?_
      rotate_left
      · intro w'
        go_simp
        with_reducible rfl
      rotate_left
      · simp only [Act.put, List.setIfInBounds_toArray, List.set_cons_zero, List.set_cons_succ, i64_w, i32_w]
        rfl
      refine pure_ (i := 8) (N := some 32) (v := ?_) (a' := ?_) #[true, true, true, true, true, false, false, true, true, false, false, false, false, false, false, false] rfl rfl (by kernel_rfl) (fun _ _ _ h => h) (Or.inl ⟨by rfl, ?_⟩) ?_ ?_
      rotate_left
      · intro w'
        go_simp
        with_reducible rfl
      rotate_left
      · simp only [Act.put, List.setIfInBounds_toArray, List.set_cons_zero, List.set_cons_succ, i64_w, i32_w]
        rfl
      refine take_ (i := 9) (N := some 33) (v := ?_) (a' := ?_) #[true, true, true, true, true, false, false, true, true, true, false, false, false, false, false, false] rfl rfl (by kernel_rfl) (fun _ _ _ h => h) (Or.inl ⟨by rfl, ?_⟩) hHeld ?_ ?_
      rotate_left
      · rintro w' ⟨c1, c2⟩
        go_simp
        with_reducible rfl
      rotate_left
      · simp only [Act.put, List.setIfInBounds_toArray, List.set_cons_zero, List.set_cons_succ, i64_w, i32_w]
        rfl
      refine pure_ (i := 10) (N := some 34) (v := ?_) (a' := ?_) #[true, true, true, true, true, false, false, true, true, true, true, false, false, false, false, false] rfl rfl (by kernel_rfl) (fun _ _ _ h => h) (Or.inl ⟨by rfl, ?_⟩) ?_ ?_
      rotate_left
      · intro w'
        go_simp
        with_reducible rfl
      rotate_left
      · simp only [Act.put, List.setIfInBounds_toArray, List.set_cons_zero, List.set_cons_succ, i64_w, i32_w]
        rfl
      refine take_ (i := 11) (N := some 35) (v := ?_) (a' := ?_) #[true, true, true, true, true, false, false, true, true, true, true, true, false, false, false, false] rfl rfl (by kernel_rfl) (fun _ _ _ h => h) (Or.inl ⟨by rfl, ?_⟩) hHeld ?_ ?_
      rotate_left
      · rintro w' ⟨c1, c2⟩
        go_simp
        with_reducible rfl
      rotate_left
      · simp only [Act.put, List.setIfInBounds_toArray, List.set_cons_zero, List.set_cons_succ, i64_w, i32_w]
        rfl
      refine one_ (i := 5) (N := some 29) #[true, true, true, true, true, true, false, true, true, true, true, true, false, false, false, false] rfl rfl (by kernel_rfl) (by decide) (fun K hK => ?_)
      refine goes_ Try.func22 (by kernel_rfl) rfl #[Value.string s] (by rfl) rfl rfl (by (try simp only [List.map_toArray, List.map_cons, List.map_nil]); first | done | rfl) ?_
      refine (hF.out s wA.drew).mono ?_
      rintro e w4 ⟨rfl, hb4⟩
      have hX4 := hid (hX.out.drew.below hb4)
      have hT4 := hid (hT.out.drew.below hb4)
      clear hb4
      refine ⟨_, rfl, ?_⟩
      refine hK.out _ _ ⟨(blk_cell hX4.out.bx 1).trans rfl, (blk_cell hX4.out.bx 2).trans rfl⟩ (fun hHeld => ?_)
      clear hK K
      refine norm_ (a' := ?_) ?_ ?_
      rotate_left
      · show Act.put _ (some 29) _ = _
        simp only [Act.put, List.setIfInBounds_toArray, List.set_cons_zero, List.set_cons_succ, i64_w, i32_w]
        rfl
      refine one_ (i := 6) (N := some 30) #[true, true, true, true, true, true, true, true, true, true, true, true, false, false, false, false] rfl rfl (by kernel_rfl) (by decide) (fun K hK => ?_)
      refine goes_ Try.func23 (by kernel_rfl) rfl #[Value.pointer (some ⟨d, 0, none⟩), Value.int .i64 at_, Value.string (f s)] (by rfl) rfl rfl (by (try simp only [List.map_toArray, List.map_cons, List.map_nil]); first | done | rfl) ?_
      refine (hW.out w4 hT4.out hX4.out.kq).mono ?_
      rintro e w5 ⟨rfl, hT5, hf5⟩
      have hX5 := hid (hX4.out.step hf5)
      replace hT5 := hid hT5
      clear hf5
      refine ⟨_, rfl, ?_⟩
      refine hK.out _ _ ⟨(blk_cell hX5.out.bx 1).trans rfl, (blk_cell hX5.out.bx 2).trans rfl⟩ (fun hHeld => ?_)
      clear hK K
      refine norm_ (a' := ?_) ?_ ?_
      rotate_left
      · show Act.put _ (some 30) _ = _
        simp only [Act.put, List.setIfInBounds_toArray, List.set_cons_zero, List.set_cons_succ, i64_w, i32_w]
        rfl
      refine one_ (i := 12) (N := some 36) #[true, true, true, true, true, true, true, true, true, true, true, true, true, false, false, false] rfl rfl (by kernel_rfl) (by decide) (fun K hK => ?_)
      refine goes_ Try.func22 (by kernel_rfl) rfl #[Value.string s] (by rfl) rfl rfl (by (try simp only [List.map_toArray, List.map_cons, List.map_nil]); first | done | rfl) ?_
      refine (hF.out s w5).mono ?_
      rintro e w6 ⟨rfl, hb6⟩
      have hX6 := hid (hX5.out.below hb6)
      have hT6 := hid (hT5.out.below hb6)
      clear hb6
      refine ⟨_, rfl, ?_⟩
      refine hK.out _ _ ⟨(blk_cell hX6.out.bx 1).trans rfl, (blk_cell hX6.out.bx 2).trans rfl⟩ (fun hHeld => ?_)
      clear hK K
      refine norm_ (a' := ?_) ?_ ?_
      rotate_left
      · show Act.put _ (some 36) _ = _
        simp only [Act.put, List.setIfInBounds_toArray, List.set_cons_zero, List.set_cons_succ, i64_w, i32_w]
        rfl
      refine last_ (i := 13) (N := some 37) #[true, true, true, true, true, true, true, true, true, true, true, true, true, true, false, false] rfl rfl (by kernel_rfl) (by decide) (fun K hK => ?_)
      refine goes_ Try.func35 (by kernel_rfl) rfl #[Value.pointer (some ⟨x, 0, none⟩), Value.int .i64 at_, Value.string (f s)] (by rfl) rfl rfl (by (try simp only [List.map_toArray, List.map_cons, List.map_nil]); first | done | rfl) ?_
      refine (hRW.out w6 hT6.out hX6.out.kq).mono ?_
      rintro e w7 ⟨rfl, hT7, hf7⟩
      have hX7 := hid (hX6.out.step hf7)
      replace hT7 := hid hT7
      clear hf7
      refine ⟨_, rfl, ?_⟩
      refine hK.out _ _ ?_
      clear hK K
      refine norm_ (a' := ?_) ?_ ?_
      rotate_left
      · show Act.put _ (some 37) _ = _
        simp only [Act.put, List.setIfInBounds_toArray, List.set_cons_zero, List.set_cons_succ, i64_w, i32_w]
        rfl
      refine pure_ (i := 14) (N := some 38) (v := ?_) (a' := ?_) #[true, true, true, true, true, true, true, true, true, true, true, true, true, true, true, false] rfl rfl (by kernel_rfl) (fun _ _ _ h => h) (Or.inl ⟨by rfl, ?_⟩) ?_ ?_
      rotate_left
      · intro w'
        go_simp
        with_reducible rfl
      rotate_left
      · simp only [Act.put, List.setIfInBounds_toArray, List.set_cons_zero, List.set_cons_succ, i64_w, i32_w]
        rfl
      refine pure_ (i := 15) (N := some 6) (v := ?_) (a' := ?_) #[true, true, true, true, true, true, true, true, true, true, true, true, true, true, true, true] rfl rfl (by kernel_rfl) (fun _ _ _ h => h) (Or.inl ⟨by rfl, ?_⟩) ?_ ?_
      rotate_left
      · intro w'
        go_simp
        with_reducible rfl
      rotate_left
      · simp only [Act.put, List.setIfInBounds_toArray, List.set_cons_zero, List.set_cons_succ, i64_w, i32_w]
        rfl
      refine done_ (by kernel_rfl) ?_
      go_wp2_with fail
      go_ret
      exact ⟨rfl, ⟨st1, rf1, hT7.out.more (fun q _ hq => .inl hq), ha1.out⟩, hX7.out.fr⟩
    · obtain ⟨st1, rf1, e1, e2, e3, ha1⟩ := hwn.out s
      have hW : Hid (∀ W, Two (fun q => Kp q ∨ q = bu) W d x st (withF st rf) → (∀ q, (Kp q ∨ q = bu) → q < W.heap.size) → Calls Try.prog 23 #[.pointer (some ⟨d, 0, none⟩), .int .i64 at_, .string s] W fun e w' => e = .returned (.int .i64 (writes st at_ s).1) ∧ Two (fun q => Kp q ∨ q = bu) w' d x st1 (withF st rf) ∧ Fr (fun q => ¬ (Kp q ∨ q = bu)) W w') := hid (fun W hT hK => by
        have h := Two.Write _ d x st (withF st rf) W hT hK at_ s (by have := hll.out; omega)
        rw [e2] at h
        exact h)
      have hRW : Hid (∀ W, Two (fun q => Kp q ∨ q = bu) W d x st1 (withF st rf) → (∀ q, (Kp q ∨ q = bu) → q < W.heap.size) → Calls Try.prog 35 #[.pointer (some ⟨x, 0, none⟩), .int .i64 at_, .string s] W fun e w' => e = .returned (.int .i64 (writes st at_ s).1) ∧ Two (fun q => Kp q ∨ q = bu) w' d x st1 (withF st1 rf1) ∧ Fr (fun q => ¬ (Kp q ∨ q = bu)) W w') := hid (fun W hT hK => by
        have h := Two.RWrite _ d x st1 (withF st rf) W hT hK at_ s (Nat.le_trans hll.out (by decide))
        rw [e1, e3] at h
        exact h)
      replace ha1 := hid ha1
      clear e1 e2 e3
      generalize (writes st at_ s).1 = r at *
      go_upto_region 9 with fail
      refine start_ (n := 14) (S := fun w' => w'.cell? ⟨bu, 1, none⟩ = some (.int .i64 at_) ∧ w'.cell? ⟨bu, 2, none⟩ = some (.string s)) (ds := [11]) #[false, false, false, false, false, false, false, false, false, false, false, false, false, false] (by kernel_rfl) rfl rfl ⟨(blk_cell hX.out.bx 1).trans rfl, (blk_cell hX.out.bx 2).trans rfl⟩ (fun hHeld => ?_)
      refine pure_ (i := 0) (N := some 41) (v := ?_) (a' := ?_) #[true, false, false, false, false, false, false, false, false, false, false, false, false, false] rfl rfl (by kernel_rfl) (fun _ _ _ h => h) (Or.inl ⟨by rfl, ?_⟩) ?_ ?_
      rotate_left
      · intro w'
        go_simp
        with_reducible rfl
      rotate_left
      · simp only [Act.put, List.setIfInBounds_toArray, List.set_cons_zero, List.set_cons_succ, i64_w, i32_w]
        rfl
      refine pure_ (i := 1) (N := some 42) (v := ?_) (a' := ?_) #[true, true, false, false, false, false, false, false, false, false, false, false, false, false] rfl rfl (by kernel_rfl) (fun _ _ _ h => h) (Or.inl ⟨by rfl, ?_⟩) ?_ ?_
      rotate_left
      · intro w'
        go_simp
        with_reducible rfl
      rotate_left
      · simp only [Act.put, List.setIfInBounds_toArray, List.set_cons_zero, List.set_cons_succ, i64_w, i32_w]
        rfl
      refine take_ (i := 2) (N := some 43) (v := ?_) (a' := ?_) #[true, true, true, false, false, false, false, false, false, false, false, false, false, false] rfl rfl (by kernel_rfl) (fun _ _ _ h => h) (Or.inl ⟨by rfl, ?_⟩) hHeld ?_ ?_
      rotate_left
      · rintro w' ⟨c1, c2⟩
        go_simp
        with_reducible rfl
      rotate_left
      · simp only [Act.put, List.setIfInBounds_toArray, List.set_cons_zero, List.set_cons_succ, i64_w, i32_w]
        rfl
      refine pure_ (i := 3) (N := some 44) (v := ?_) (a' := ?_) #[true, true, true, true, false, false, false, false, false, false, false, false, false, false] rfl rfl (by kernel_rfl) (fun _ _ _ h => h) (Or.inl ⟨by rfl, ?_⟩) ?_ ?_
      rotate_left
      · intro w'
        go_simp
        with_reducible rfl
      rotate_left
      · simp only [Act.put, List.setIfInBounds_toArray, List.set_cons_zero, List.set_cons_succ, i64_w, i32_w]
        rfl
      refine take_ (i := 4) (N := some 45) (v := ?_) (a' := ?_) #[true, true, true, true, true, false, false, false, false, false, false, false, false, false] rfl rfl (by kernel_rfl) (fun _ _ _ h => h) (Or.inl ⟨by rfl, ?_⟩) hHeld ?_ ?_
      rotate_left
      · rintro w' ⟨c1, c2⟩
        go_simp
        with_reducible rfl
      rotate_left
      · simp only [Act.put, List.setIfInBounds_toArray, List.set_cons_zero, List.set_cons_succ, i64_w, i32_w]
        rfl
      refine pure_ (i := 6) (N := some 47) (v := ?_) (a' := ?_) #[true, true, true, true, true, false, true, false, false, false, false, false, false, false] rfl rfl (by kernel_rfl) (fun _ _ _ h => h) (Or.inl ⟨by rfl, ?_⟩) ?_ ?_
      rotate_left
      · intro w'
        go_simp
        with_reducible rfl
      rotate_left
      · simp only [Act.put, List.setIfInBounds_toArray, List.set_cons_zero, List.set_cons_succ, i64_w, i32_w]
        rfl
      refine pure_ (i := 7) (N := some 48) (v := ?_) (a' := ?_) #[true, true, true, true, true, false, true, true, false, false, false, false, false, false] rfl rfl (by kernel_rfl) (fun _ _ _ h => h) (Or.inl ⟨by rfl, ?_⟩) ?_ ?_
      rotate_left
      · intro w'
        go_simp
        with_reducible rfl
      rotate_left
      · simp only [Act.put, List.setIfInBounds_toArray, List.set_cons_zero, List.set_cons_succ, i64_w, i32_w]
        rfl
      refine take_ (i := 8) (N := some 49) (v := ?_) (a' := ?_) #[true, true, true, true, true, false, true, true, true, false, false, false, false, false] rfl rfl (by kernel_rfl) (fun _ _ _ h => h) (Or.inl ⟨by rfl, ?_⟩) hHeld ?_ ?_
      rotate_left
      · rintro w' ⟨c1, c2⟩
        go_simp
        with_reducible rfl
      rotate_left
      · simp only [Act.put, List.setIfInBounds_toArray, List.set_cons_zero, List.set_cons_succ, i64_w, i32_w]
        rfl
      refine pure_ (i := 9) (N := some 50) (v := ?_) (a' := ?_) #[true, true, true, true, true, false, true, true, true, true, false, false, false, false] rfl rfl (by kernel_rfl) (fun _ _ _ h => h) (Or.inl ⟨by rfl, ?_⟩) ?_ ?_
      rotate_left
      · intro w'
        go_simp
        with_reducible rfl
      rotate_left
      · simp only [Act.put, List.setIfInBounds_toArray, List.set_cons_zero, List.set_cons_succ, i64_w, i32_w]
        rfl
      refine take_ (i := 10) (N := some 51) (v := ?_) (a' := ?_) #[true, true, true, true, true, false, true, true, true, true, true, false, false, false] rfl rfl (by kernel_rfl) (fun _ _ _ h => h) (Or.inl ⟨by rfl, ?_⟩) hHeld ?_ ?_
      rotate_left
      · rintro w' ⟨c1, c2⟩
        go_simp
        with_reducible rfl
      rotate_left
      · simp only [Act.put, List.setIfInBounds_toArray, List.set_cons_zero, List.set_cons_succ, i64_w, i32_w]
        rfl
      refine one_ (i := 5) (N := some 46) #[true, true, true, true, true, true, true, true, true, true, true, false, false, false] rfl rfl (by kernel_rfl) (by decide) (fun K hK => ?_)
      refine goes_ Try.func23 (by kernel_rfl) rfl #[Value.pointer (some ⟨d, 0, none⟩), Value.int .i64 at_, Value.string s] (by rfl) rfl rfl (by (try simp only [List.map_toArray, List.map_cons, List.map_nil]); first | done | rfl) ?_
      refine (hW.out wA.drew hT.out.drew hX.out.drew.kq).mono ?_
      rintro e w5 ⟨rfl, hT5, hf5⟩
      have hX5 := hid (hX.out.drew.step hf5)
      replace hT5 := hid hT5
      clear hf5
      refine ⟨_, rfl, ?_⟩
      refine hK.out _ _ ⟨(blk_cell hX5.out.bx 1).trans rfl, (blk_cell hX5.out.bx 2).trans rfl⟩ (fun hHeld => ?_)
      clear hK K
      refine norm_ (a' := ?_) ?_ ?_
      rotate_left
      · show Act.put _ (some 46) _ = _
        simp only [Act.put, List.setIfInBounds_toArray, List.set_cons_zero, List.set_cons_succ, i64_w, i32_w]
        rfl
      refine last_ (i := 11) (N := some 52) #[true, true, true, true, true, true, true, true, true, true, true, true, false, false] rfl rfl (by kernel_rfl) (by decide) (fun K hK => ?_)
      refine goes_ Try.func35 (by kernel_rfl) rfl #[Value.pointer (some ⟨x, 0, none⟩), Value.int .i64 at_, Value.string s] (by rfl) rfl rfl (by (try simp only [List.map_toArray, List.map_cons, List.map_nil]); first | done | rfl) ?_
      refine (hRW.out w5 hT5.out hX5.out.kq).mono ?_
      rintro e w7 ⟨rfl, hT7, hf7⟩
      have hX7 := hid (hX5.out.step hf7)
      replace hT7 := hid hT7
      clear hf7
      refine ⟨_, rfl, ?_⟩
      refine hK.out _ _ ?_
      clear hK K
      refine norm_ (a' := ?_) ?_ ?_
      rotate_left
      · show Act.put _ (some 52) _ = _
        simp only [Act.put, List.setIfInBounds_toArray, List.set_cons_zero, List.set_cons_succ, i64_w, i32_w]
        rfl
      refine pure_ (i := 12) (N := some 53) (v := ?_) (a' := ?_) #[true, true, true, true, true, true, true, true, true, true, true, true, true, false] rfl rfl (by kernel_rfl) (fun _ _ _ h => h) (Or.inl ⟨by rfl, ?_⟩) ?_ ?_
      rotate_left
      · intro w'
        go_simp
        with_reducible rfl
      rotate_left
      · simp only [Act.put, List.setIfInBounds_toArray, List.set_cons_zero, List.set_cons_succ, i64_w, i32_w]
        rfl
      refine pure_ (i := 13) (N := some 6) (v := ?_) (a' := ?_) #[true, true, true, true, true, true, true, true, true, true, true, true, true, true] rfl rfl (by kernel_rfl) (fun _ _ _ h => h) (Or.inl ⟨by rfl, ?_⟩) ?_ ?_
      rotate_left
      · intro w'
        go_simp
        with_reducible rfl
      rotate_left
      · simp only [Act.put, List.setIfInBounds_toArray, List.set_cons_zero, List.set_cons_succ, i64_w, i32_w]
        rfl
      refine done_ (by kernel_rfl) ?_
      go_wp2_with fail
      go_ret
      exact ⟨rfl, ⟨st1, rf1, hT7.out.more (fun q _ hq => .inl hq), ha1.out⟩, hX7.out.fr⟩
    · have hS : Hid (Calls Try.prog 26 #[.pointer (some ⟨d, 0, none⟩)] wA fun e w' => e = .returned (.int .i64 (if st.gone then 5 else 0)) ∧ Two (fun q => Kp q ∨ q = bu) w' d x (if st.gone then st else { st with loose := [] }) (withF st rf) ∧ Fr (fun q => ¬ (Kp q ∨ q = bu)) wA w') := hid (Two.Sync _ d x st (withF st rf) wA hT.out hX.out.kq)
      have hRS : Hid (∀ W, Two (fun q => Kp q ∨ q = bu) W d x (if st.gone then st else { st with loose := [] }) (withF st rf) → (∀ q, (Kp q ∨ q = bu) → q < W.heap.size) → Calls Try.prog 45 #[.pointer (some ⟨x, 0, none⟩)] W fun e w' => e = .returned (.int .i64 (if st.gone then 5 else 0)) ∧ (∃ st' rf', Two (fun q => Kp q ∨ q = bu) w' d x st' (withF st' rf') ∧ Alike st' rf' (i + 1)) ∧ Fr (fun q => ¬ (Kp q ∨ q = bu)) W w') := hid (fun W hT hK => by
        refine (Two.RSync _ d x _ (withF st rf) W hT hK).mono ?_
        rintro e w' ⟨rfl, h1, h2⟩
        refine ⟨rfl, ?_, h2⟩
        cases hg : st.gone with
        | true =>
          rw [hg, if_pos rfl, show (withF st rf).gone = true from hg, if_pos rfl] at h1
          exact ⟨st, rf, h1, ⟨ha.out.fuse, ha.out.rf, ha.out.keys, Nat.le_succ_of_le ha.out.len⟩⟩
        | false =>
          rw [hg, if_neg (by decide), show (withF st rf).gone = false from hg, if_neg (by decide)] at h1
          refine ⟨{ st with loose := [] }, rf, ?_, ⟨ha.out.fuse, ha.out.rf, List.nodup_nil, Nat.zero_le _⟩⟩
          rw [hg]
          have e : ({ withF st rf with loose := [], gone := false } : St) = withF { st with loose := [], gone := false } rf := rfl
          first | exact h1 | (rw [← e]; exact h1))
      generalize (if st.gone then (5 : Int) else 0) = r at *
      go_wp2_with (first | ((with_reducible refine Calls.mono hS.out ?_); rintro e w4 ⟨rfl, hT4, hf4⟩; replace hT4 := hid hT4; have hX4 := hid (hX.out.step hf4); clear hf4) | ((with_reducible refine Calls.mono (hRS.out _ hT4.out hX4.out.kq) ?_); rintro e w5 ⟨rfl, hq5, hf5⟩; replace hq5 := hid hq5; have hX5 := hid (hX4.out.step hf5); clear hf5))
      go_ret
      obtain ⟨st', rf', h1, h2⟩ := hq5.out
      exact ⟨rfl, ⟨st', rf', h1.more (fun q _ hq => .inl hq), h2⟩, hX5.out.fr⟩
    · have hFu := hid (Two.Fuse _ d x st (withF st rf) wA hT.out hX.out.kq n hnb.out.2)
      go_upto_region 14 with (first | ((with_reducible refine Calls.mono hFu.out ?_); rintro e w4 ⟨rfl, hT4, hf4⟩; replace hT4 := hid hT4; have hX4 := hid (hX.out.step hf4); clear hf4))
      have k3 : w4.cell? ⟨bu, 3, none⟩ = some (.int .i64 n) := (blk_cell hX4.out.bx 3).trans rfl
      have hRf := hid (Two.rfuse _ d x _ (withF st rf) w4 hT4.out hX4.out.kq n hnb.out)
      obtain ⟨fz, v, cv⟩ := hRf.out.1
      have hX5 := hid (hX4.out.step hRf.out.2.2)
      have hT5 := hid hRf.out.2.1
      clear hRf
      go_wp2_with fail
      go_ret
      exact ⟨rfl, ⟨{ st with fuse := max (-1) n }, n, hT5.out.more (fun q _ hq => .inl hq), ⟨rfl, hnb.out, ha.out.keys, Nat.le_succ_of_le ha.out.len⟩⟩, hX5.out.fr⟩
    · have hCr := hid (Two.Crash _ d x st (withF st rf) wA hT.out hX.out.kq Ak ck ks hrw.out (by have := hll.out; omega))
      have hRC : Hid (∀ W, Two (fun q => Kp q ∨ q = bu) W d x { now := crashN st.loose ks st.now st.loose.length, loose := [], fuse := -1, gone := false } (withF st rf) → (∀ q, (Kp q ∨ q = bu) → q < W.heap.size) → Fr (fun q => ¬ (Kp q ∨ q = bu)) wA W → Calls Try.prog 46 #[.pointer (some ⟨x, 0, none⟩), .slice Ak ks.length ck] W fun e w' => e = .returned (.tuple #[]) ∧ (∃ st' rf', Two (fun q => Kp q ∨ q = bu) w' d x st' (withF st' rf') ∧ Alike st' rf' (i + 1)) ∧ Fr (fun q => ¬ (Kp q ∨ q = bu)) W w') := hid (fun W hT hK hf => by
        refine (Two.RCrash _ d x _ (withF st rf) W hT hK Ak ck ks (hrw.out.moved (fun q hq hn => hf.keep q hq hn) (fun _ _ h => h)) (Nat.le_trans hll.out (by decide))).mono ?_
        rintro e w' ⟨rfl, h1, h2⟩
        obtain ⟨e1, e2⟩ := alike_crash ha.out ks (i + 1)
        rw [e1] at h1
        exact ⟨rfl, ⟨_, _, h1, e2⟩, h2⟩)
      go_upto_region 18 with (first | ((with_reducible refine Calls.mono hCr.out ?_); rintro e w4 ⟨rfl, hT4, hf4⟩; replace hT4 := hid hT4; have hX4 := hid (hX.out.step hf4); replace hf4 := hid hf4))
      have k4 : w4.cell? ⟨bu, 4, none⟩ = some (.slice Ak ks.length ck) := (blk_cell hX4.out.bx 4).trans rfl
      go_wp2_with (first | ((with_reducible refine Calls.mono (hRC.out _ hT4.out hX4.out.kq hf4.out) ?_); rintro e w5 ⟨rfl, hq5, hf5⟩; replace hq5 := hid hq5; have hX5 := hid (hX4.out.step hf5); clear hf5))
      go_ret
      obtain ⟨st', rf', h1, h2⟩ := hq5.out
      exact ⟨rfl, ⟨st', rf', h1.more (fun q _ hq => .inl hq), h2⟩, hX5.out.fr⟩
    · have hRd := hid (Two.Read _ d x st (withF st rf) wA hT.out at_)
      have hRR := hid (Two.RRead _ d x st (withF st rf) wA hT.out at_)
      rw [alike_read] at hRR
      generalize (reads st at_).1 = r1 at *
      generalize (reads st at_).2 = r2 at *
      go_wp2_with (first | ((with_reducible refine Calls.mono hRd.out ?_); rintro e w4 ⟨rfl, rfl⟩) | ((with_reducible refine Calls.mono hRR.out ?_); rintro e w5 ⟨rfl, rfl⟩))
      go_ret
      exact ⟨rfl, ⟨st, rf, hT.out.more (fun q _ hq => .inl hq), ⟨ha.out.fuse, ha.out.rf, ha.out.keys, Nat.le_succ_of_le ha.out.len⟩⟩, hX.out.fr⟩
theorem Two.cells {K : Nat → Prop} {w : World} {d x : Nat} {st rst : St} (h : Two K w d x st rst) :
    ∃ sA sc, w.cell? ⟨x, 0, none⟩ = some (.slice sA rst.now.length sc) ∧ w.cell? ⟨x, 3, none⟩ = some (.bool rst.gone) ∧ (rst.now.length ≤ 1000) ∧ ∀ i, i < rst.now.length → ∃ ad, sA = some ad ∧ w.cell? (ad.add i) = some (.string (rst.now.getD i ⟨#[]⟩)) := by
  obtain ⟨FD, FR, hD, ⟨sv, lv, hx, hs, hl, f1, r1, _⟩, _⟩ := h
  obtain ⟨A, c, rfl, _, hC⟩ := Kd.R_reads hs
  refine ⟨A, c, (blk_cell hx 0).trans rfl, (blk_cell hx 3).trans rfl, r1.2, fun i hi => ?_⟩
  obtain ⟨ad, e, hc⟩ := Kd.at_string hC (i : Int) (by omega) (by omega)
  rw [Int.toNat_natCast] at hc
  exact ⟨ad, e, hc⟩
theorem Two.Up {K : Nat → Prop} {w : World} {d x : Nat} {st rst : St} (h : Two K w d x st rst) : Calls Try.prog 27 #[.pointer (some ⟨d, 0, none⟩)] w fun e w' => e = .returned (.bool (!st.gone)) ∧ w = w' := by
  obtain ⟨FD, FR, hD, _⟩ := h
  exact Up.calls FD d st w hD
theorem Two.Size {K : Nat → Prop} {w : World} {d x : Nat} {st rst : St} (h : Two K w d x st rst) : Calls Try.prog 49 #[.pointer (some ⟨d, 0, none⟩)] w fun e w' => e = .returned (.int .i64 (st.now.length : Int)) ∧ w = w' := by
  obtain ⟨FD, FR, hD, _⟩ := h
  exact Size.calls FD d st w hD
theorem Two.Loose {K : Nat → Prop} {w : World} {d x : Nat} {st rst : St} (h : Two K w d x st rst) (hl : st.loose.length ≤ 100000) :
    Calls Try.prog 30 #[.pointer (some ⟨d, 0, none⟩)] w fun e w' => ∃ v, e = .returned v ∧ Kd.R (Kd.int .i64) 3 w' w.heap.size (fun _ => True) v (st.loose.map (·.1)) ∧ Below w.heap.size w w' := by
  obtain ⟨FD, FR, hD, _⟩ := h
  exact Loose.calls FD d st w hD hl
theorem Two.RLoose {K : Nat → Prop} {w : World} {d x : Nat} {st rst : St} (h : Two K w d x st rst) (hl : rst.loose.length ≤ 100000) :
    Calls Try.prog 48 #[.pointer (some ⟨x, 0, none⟩)] w fun e w' => ∃ v, e = .returned v ∧ Kd.R (Kd.int .i64) 3 w' w.heap.size (fun _ => True) v (rst.loose.map (·.1)) ∧ Below w.heap.size w w' := by
  obtain ⟨FD, FR, hD, hR, _⟩ := h
  exact RLoose.calls FR x rst w hR hl
set_option maxHeartbeats 2000000 in
set_option maxRecDepth 100000 in
theorem like.calls (K : Nat → Prop) (d x : Nat) (st : St) (rf : Int) (w : World) (h : Two K w d x st (withF st rf)) (hll : st.loose.length ≤ 10000) :
    Calls Try.prog 33 #[.pointer (some ⟨d, 0, none⟩), .pointer (some ⟨x, 0, none⟩)] w fun e w' => e = .returned (.bool true) ∧ Below w.heap.size w w' := by
  have hlen : (st.loose.map (·.1)).length ≤ 100000 := by rw [List.length_map]; omega
  have hLo := hid (h.Loose (by omega))
  have hRL : Hid (∀ W, Below w.heap.size w W → Calls Try.prog 48 #[.pointer (some ⟨x, 0, none⟩)] W fun e w' => ∃ v, e = .returned v ∧ Kd.R (Kd.int .i64) 3 w' W.heap.size (fun _ => True) v (st.loose.map (·.1)) ∧ Below W.heap.size W w') := hid (fun W hW => (h.below hW).RLoose (Nat.le_trans hll (by decide)))
  have hNu := hid (fun (v1 v2 : Value) (e1 e2 B1 B2 : Nat) (o1 o2 : Nat → Prop) (W : World) (h1 : Kd.R (Kd.int .i64) e1 W B1 o1 v1 (st.loose.map (·.1))) (h2 : Kd.R (Kd.int .i64) e2 W B2 o2 v2 (st.loose.map (·.1))) => numbers.same v1 v2 _ hlen e1 e2 B1 B2 o1 o2 W h1 h2)
  replace h := hid h
  clear hll hlen
  go_enter Try.func33, Try.ntmps33
  go_upto_region 2 with (first | ((with_reducible refine Calls.mono hLo.out ?_); rintro e w1 ⟨v1, rfl, hR1, hb1⟩; replace hR1 := hid hR1; replace hb1 := hid hb1) | ((with_reducible refine Calls.mono (hRL.out _ hb1.out) ?_); rintro e w2 ⟨v2, rfl, hR2, hb2⟩; replace hR1 := hid (Kd.R_below hR1.out hb2); replace hR2 := hid hR2; replace hb2 := hid (hb1.out.trans (hb2.mono hb1.out.size))) | ((with_reducible refine Calls.mono (hNu.out _ _ _ _ _ _ _ _ _ hR1.out hR2.out) ?_); rintro e w3 ⟨rfl, nd, rfl⟩))
  have hb3 := hid (pw_below_drewN hb2.out nd)
  generalize w2.drewN nd = w3 at *
  clear hR1 hR2 hb1 hb2 hLo hRL hNu
  have hT := hid (h.out.below hb3.out)
  have hT2 := hid (h.out.below (below_drew hb3.out))
  have hU0 := hid hT2.out.Up
  have hSz0 := hid hT2.out.Size
  obtain ⟨sA, sc, c0, c3, hle, hcell⟩ := hT.out.cells
  replace hcell : Hid (∀ i, i < st.now.length → ∃ ad, sA = some ad ∧ w3.cell? (ad.add i) = some (.string (st.now.getD i ⟨#[]⟩))) := hid hcell
  replace c0 : w3.cell? ⟨x, 0, none⟩ = some (.slice sA st.now.length sc) := c0
  replace c3 : w3.cell? ⟨x, 3, none⟩ = some (.bool st.gone) := c3
  replace hle : st.now.length ≤ 1000 := hle
  have hRd := hid (fun (n : Nat) (hn : n < st.now.length) (hg : st.gone = false) => (show Calls Try.prog 24 #[.pointer (some ⟨d, 0, none⟩), .int .i64 (n : Int)] w3.drew fun e w' => e = .returned (.tuple #[.string (st.now.getD n ⟨#[]⟩), .int .i64 0]) ∧ w3.drew = w' from by
    have h := Two.Read _ d x st _ w3.drew hT2.out (n : Int)
    rw [show reads st (n : Int) = (st.now.getD n ⟨#[]⟩, 0) by unfold reads; rw [hg, if_neg (by decide), if_neg (by omega), Int.toNat_natCast]] at h
    exact h))
  obtain ⟨N, hN⟩ : ∃ N, N = st.now.length := ⟨_, rfl⟩
  rw [← hN] at c0 hle
  rw [← hN] at hRd hcell
  have hSz : Hid (Calls Try.prog 49 #[.pointer (some ⟨d, 0, none⟩)] w3.drew fun e w' => e = .returned (.int .i64 (N : Int)) ∧ w3.drew = w') := hid (by rw [hN]; exact hSz0.out)
  clear hSz0 hN
  cases hg : st.gone with
  | true =>
    rw [hg] at c3
    have hU : Hid (Calls Try.prog 27 #[.pointer (some ⟨d, 0, none⟩)] w3.drew fun e w' => e = .returned (.bool false) ∧ w3.drew = w') := hid (by have := hU0.out; rw [hg] at this; exact this)
    clear hU0 hRd hcell
    refine start_ (n := 21) (S := fun w' => w'.cell? ⟨x, 3, none⟩ = some (.bool true) ∧ w'.cell? ⟨x, 0, none⟩ = some (.slice sA N sc)) (ds := []) #[false, false, false, false, false, false, false, false, false, false, false, false, false, false, false, false, false, false, false, false, false] (by kernel_rfl) rfl rfl ⟨c3, c0⟩ (fun hHeld => ?_)
    refine pure_ (i := 0) (N := some 14) (v := ?_) (a' := ?_) #[true, false, false, false, false, false, false, false, false, false, false, false, false, false, false, false, false, false, false, false, false] rfl rfl (by kernel_rfl) (fun _ _ _ h => h) (Or.inl ⟨by rfl, ?_⟩) ?_ ?_
    rotate_left
    · intro w'
      go_simp
      with_reducible rfl
    rotate_left
    · simp only [Act.put, List.setIfInBounds_toArray, List.set_cons_zero, List.set_cons_succ, i64_w, i32_w]
      rfl
    refine pure_ (i := 2) (N := some 16) (v := ?_) (a' := ?_) #[true, false, true, false, false, false, false, false, false, false, false, false, false, false, false, false, false, false, false, false, false] rfl rfl (by kernel_rfl) (fun _ _ _ h => h) (Or.inl ⟨by rfl, ?_⟩) ?_ ?_
    rotate_left
    · intro w'
      go_simp
      with_reducible rfl
    rotate_left
    · simp only [Act.put, List.setIfInBounds_toArray, List.set_cons_zero, List.set_cons_succ, i64_w, i32_w]
      rfl
    refine pure_ (i := 3) (N := some 17) (v := ?_) (a' := ?_) #[true, false, true, true, false, false, false, false, false, false, false, false, false, false, false, false, false, false, false, false, false] rfl rfl (by kernel_rfl) (fun _ _ _ h => h) (Or.inl ⟨by rfl, ?_⟩) ?_ ?_
    rotate_left
    · intro w'
      go_simp
      with_reducible rfl
    rotate_left
    · simp only [Act.put, List.setIfInBounds_toArray, List.set_cons_zero, List.set_cons_succ, i64_w, i32_w]
      rfl
    refine pure_ (i := 4) (N := some 18) (v := ?_) (a' := ?_) #[true, false, true, true, true, false, false, false, false, false, false, false, false, false, false, false, false, false, false, false, false] rfl rfl (by kernel_rfl) (fun _ _ _ h => h) (Or.inl ⟨by rfl, ?_⟩) ?_ ?_
    rotate_left
    · intro w'
      go_simp
      with_reducible rfl
    rotate_left
    · simp only [Act.put, List.setIfInBounds_toArray, List.set_cons_zero, List.set_cons_succ, i64_w, i32_w]
      rfl
    refine take_ (i := 5) (N := some 19) (v := ?_) (a' := ?_) #[true, false, true, true, true, true, false, false, false, false, false, false, false, false, false, false, false, false, false, false, false] rfl rfl (by kernel_rfl) (fun _ _ _ h => h) (Or.inl ⟨by rfl, ?_⟩) hHeld ?_ ?_
    rotate_left
    · rintro w' ⟨h1, h2⟩
      go_simp
      with_reducible rfl
    rotate_left
    · simp only [Act.put, List.setIfInBounds_toArray, List.set_cons_zero, List.set_cons_succ, i64_w, i32_w]
      rfl
    refine one_ (i := 1) (N := some 15) #[true, true, true, true, true, true, false, false, false, false, false, false, false, false, false, false, false, false, false, false, false] rfl rfl (by kernel_rfl) (by decide) (fun K hK => ?_)
    refine goes_ Try.func27 (by kernel_rfl) rfl #[Value.pointer (some ⟨d, 0, none⟩)] (by rfl) rfl rfl (by (try simp only [List.map_toArray, List.map_cons, List.map_nil]); first | done | rfl) ?_
    refine (hU.out).mono ?_
    rintro e w4 ⟨rfl, rfl⟩
    refine ⟨_, rfl, ?_⟩
    refine hK.out _ _ ⟨c3, c0⟩ (fun hHeld => ?_)
    clear hK K
    refine norm_ (a' := ?_) ?_ ?_
    rotate_left
    · show Act.put _ (some 15) _ = _
      simp only [Act.put, List.setIfInBounds_toArray, List.set_cons_zero, List.set_cons_succ, i64_w, i32_w]
      rfl
    refine pure_ (i := 6) (N := some 20) (v := ?_) (a' := ?_) #[true, true, true, true, true, true, true, false, false, false, false, false, false, false, false, false, false, false, false, false, false] rfl rfl (by kernel_rfl) (fun _ _ _ h => h) (Or.inl ⟨by rfl, ?_⟩) ?_ ?_
    rotate_left
    · intro w'
      go_simp
      with_reducible rfl
    rotate_left
    · simp only [Act.put, List.setIfInBounds_toArray, List.set_cons_zero, List.set_cons_succ, i64_w, i32_w]
      rfl
    refine pure_ (i := 7) (N := some 21) (v := ?_) (a' := ?_) #[true, true, true, true, true, true, true, true, false, false, false, false, false, false, false, false, false, false, false, false, false] rfl rfl (by kernel_rfl) (fun _ _ _ h => h) (Or.inl ⟨by rfl, ?_⟩) ?_ ?_
    rotate_left
    · intro w'
      go_simp
      with_reducible rfl
    rotate_left
    · simp only [Act.put, List.setIfInBounds_toArray, List.set_cons_zero, List.set_cons_succ, i64_w, i32_w]
      rfl
    refine pure_ (i := 8) (N := some 22) (v := ?_) (a' := ?_) #[true, true, true, true, true, true, true, true, true, false, false, false, false, false, false, false, false, false, false, false, false] rfl rfl (by kernel_rfl) (fun _ _ _ h => h) (Or.inl ⟨by rfl, ?_⟩) ?_ ?_
    rotate_left
    · intro w'
      go_simp
      with_reducible rfl
    rotate_left
    · simp only [Act.put, List.setIfInBounds_toArray, List.set_cons_zero, List.set_cons_succ, i64_w, i32_w]
      rfl
    refine pure_ (i := 10) (N := some 24) (v := ?_) (a' := ?_) #[true, true, true, true, true, true, true, true, true, false, true, false, false, false, false, false, false, false, false, false, false] rfl rfl (by kernel_rfl) (fun _ _ _ h => h) (Or.inl ⟨by rfl, ?_⟩) ?_ ?_
    rotate_left
    · intro w'
      go_simp
      with_reducible rfl
    rotate_left
    · simp only [Act.put, List.setIfInBounds_toArray, List.set_cons_zero, List.set_cons_succ, i64_w, i32_w]
      rfl
    refine pure_ (i := 11) (N := some 25) (v := ?_) (a' := ?_) #[true, true, true, true, true, true, true, true, true, false, true, true, false, false, false, false, false, false, false, false, false] rfl rfl (by kernel_rfl) (fun _ _ _ h => h) (Or.inl ⟨by rfl, ?_⟩) ?_ ?_
    rotate_left
    · intro w'
      go_simp
      with_reducible rfl
    rotate_left
    · simp only [Act.put, List.setIfInBounds_toArray, List.set_cons_zero, List.set_cons_succ, i64_w, i32_w]
      rfl
    refine pure_ (i := 12) (N := some 26) (v := ?_) (a' := ?_) #[true, true, true, true, true, true, true, true, true, false, true, true, true, false, false, false, false, false, false, false, false] rfl rfl (by kernel_rfl) (fun _ _ _ h => h) (Or.inl ⟨by rfl, ?_⟩) ?_ ?_
    rotate_left
    · intro w'
      go_simp
      with_reducible rfl
    rotate_left
    · simp only [Act.put, List.setIfInBounds_toArray, List.set_cons_zero, List.set_cons_succ, i64_w, i32_w]
      rfl
    refine take_ (i := 13) (N := some 27) (v := ?_) (a' := ?_) #[true, true, true, true, true, true, true, true, true, false, true, true, true, true, false, false, false, false, false, false, false] rfl rfl (by kernel_rfl) (fun _ _ _ h => h) (Or.inl ⟨by rfl, ?_⟩) hHeld ?_ ?_
    rotate_left
    · rintro w' ⟨h1, h2⟩
      go_simp
      with_reducible rfl
    rotate_left
    · simp only [Act.put, List.setIfInBounds_toArray, List.set_cons_zero, List.set_cons_succ, i64_w, i32_w]
      rfl
    refine pure_ (i := 14) (N := some 28) (v := ?_) (a' := ?_) #[true, true, true, true, true, true, true, true, true, false, true, true, true, true, true, false, false, false, false, false, false] rfl rfl (by kernel_rfl) (fun _ _ _ h => h) (Or.inl ⟨by rfl, ?_⟩) ?_ ?_
    rotate_left
    · intro w'
      go_simp
      with_reducible rfl
    rotate_left
    · simp only [Act.put, List.setIfInBounds_toArray, List.set_cons_zero, List.set_cons_succ, i64_w, i32_w]
      rfl
    refine one_ (i := 9) (N := some 23) #[true, true, true, true, true, true, true, true, true, true, true, true, true, true, true, false, false, false, false, false, false] rfl rfl (by kernel_rfl) (by decide) (fun K hK => ?_)
    refine goes_ Try.func49 (by kernel_rfl) rfl #[Value.pointer (some ⟨d, 0, none⟩)] (by rfl) rfl rfl (by (try simp only [List.map_toArray, List.map_cons, List.map_nil]); first | done | rfl) ?_
    refine (hSz.out).mono ?_
    rintro e w4 ⟨rfl, rfl⟩
    refine ⟨_, rfl, ?_⟩
    refine hK.out _ _ ⟨c3, c0⟩ (fun hHeld => ?_)
    clear hK K
    refine norm_ (a' := ?_) ?_ ?_
    rotate_left
    · show Act.put _ (some 23) _ = _
      simp only [Act.put, List.setIfInBounds_toArray, List.set_cons_zero, List.set_cons_succ, i64_w, i32_w]
      rfl
    refine pure_ (i := 15) (N := some 29) (v := ?_) (a' := ?_) #[true, true, true, true, true, true, true, true, true, true, true, true, true, true, true, true, false, false, false, false, false] rfl rfl (by kernel_rfl) (fun _ _ _ h => h) (Or.inl ⟨by rfl, ?_⟩) ?_ ?_
    rotate_left
    · intro w'
      go_simp
      with_reducible rfl
    rotate_left
    · simp only [Act.put, List.setIfInBounds_toArray, List.set_cons_zero, List.set_cons_succ, i64_w, i32_w]
      rfl
    refine pure_ (i := 16) (N := some 30) (v := ?_) (a' := ?_) #[true, true, true, true, true, true, true, true, true, true, true, true, true, true, true, true, true, false, false, false, false] rfl rfl (by kernel_rfl) (fun _ _ _ h => h) (Or.inl ⟨by rfl, ?_⟩) ?_ ?_
    rotate_left
    · intro w'
      go_simp
      with_reducible rfl
    rotate_left
    · simp only [Act.put, List.setIfInBounds_toArray, List.set_cons_zero, List.set_cons_succ, i64_w, i32_w]
      rfl
    refine pure_ (i := 17) (N := some 31) (v := ?_) (a' := ?_) #[true, true, true, true, true, true, true, true, true, true, true, true, true, true, true, true, true, true, false, false, false] rfl rfl (by kernel_rfl) (fun _ _ _ h => h) (Or.inl ⟨by rfl, ?_⟩) ?_ ?_
    rotate_left
    · intro w'
      go_simp
      with_reducible rfl
    rotate_left
    · simp only [Act.put, List.setIfInBounds_toArray, List.set_cons_zero, List.set_cons_succ, i64_w, i32_w]
      rfl
    refine pure_ (i := 18) (N := some 32) (v := ?_) (a' := ?_) #[true, true, true, true, true, true, true, true, true, true, true, true, true, true, true, true, true, true, true, false, false] rfl rfl (by kernel_rfl) (fun _ _ _ h => h) (Or.inl ⟨by rfl, ?_⟩) ?_ ?_
    rotate_left
    · intro w'
      go_simp
      with_reducible rfl
    rotate_left
    · simp only [Act.put, List.setIfInBounds_toArray, List.set_cons_zero, List.set_cons_succ, i64_w, i32_w]
      rfl
    refine pure_ (i := 19) (N := some 33) (v := ?_) (a' := ?_) #[true, true, true, true, true, true, true, true, true, true, true, true, true, true, true, true, true, true, true, true, false] rfl rfl (by kernel_rfl) (fun _ _ _ h => h) (Or.inl ⟨by rfl, ?_⟩) ?_ ?_
    rotate_left
    · intro w'
      go_simp
      with_reducible rfl
    rotate_left
    · simp only [Act.put, List.setIfInBounds_toArray, List.set_cons_zero, List.set_cons_succ, i64_w, i32_w]
      rfl
    refine pure_ (i := 20) (N := some 34) (v := ?_) (a' := ?_) #[true, true, true, true, true, true, true, true, true, true, true, true, true, true, true, true, true, true, true, true, true] rfl rfl (by kernel_rfl) (fun _ _ _ h => h) (Or.inl ⟨by rfl, ?_⟩) ?_ ?_
    rotate_left
    · intro w'
      go_simp
      with_reducible rfl
    rotate_left
    · simp only [Act.put, List.setIfInBounds_toArray, List.set_cons_zero, List.set_cons_succ, i64_w, i32_w]
      rfl
    refine done_ (by kernel_rfl) ?_
    replace hb3 := hid (below_drew hb3.out)
    go_wp2_with fail
    go_loopg [6] 0 (fun g v6 wr => v6 = .int .i64 0 ∧ Hid (wr = w3.drew))
    case atStart => exact ⟨rfl, hid rfl⟩
    case round =>
      obtain ⟨rfl, hwr⟩ := hrel
      rw [hwr.out]
      clear hwr
      by_cases hz : (0 : Int) < (N : Int)
      · go_wp2_with fail
        go_ret
        exact ⟨rfl, hb3.out⟩
      · go_wp2_with fail
        go_ret
        exact ⟨rfl, hb3.out⟩
  | false =>
    rw [hg] at c3
    have hU : Hid (Calls Try.prog 27 #[.pointer (some ⟨d, 0, none⟩)] w3.drew fun e w' => e = .returned (.bool true) ∧ w3.drew = w') := hid (by have := hU0.out; rw [hg] at this; exact this)
    clear hU0
    refine start_ (n := 21) (S := fun w' => w'.cell? ⟨x, 3, none⟩ = some (.bool false) ∧ w'.cell? ⟨x, 0, none⟩ = some (.slice sA N sc)) (ds := []) #[false, false, false, false, false, false, false, false, false, false, false, false, false, false, false, false, false, false, false, false, false] (by kernel_rfl) rfl rfl ⟨c3, c0⟩ (fun hHeld => ?_)
    refine pure_ (i := 0) (N := some 14) (v := ?_) (a' := ?_) #[true, false, false, false, false, false, false, false, false, false, false, false, false, false, false, false, false, false, false, false, false] rfl rfl (by kernel_rfl) (fun _ _ _ h => h) (Or.inl ⟨by rfl, ?_⟩) ?_ ?_
    rotate_left
    · intro w'
      go_simp
      with_reducible rfl
    rotate_left
    · simp only [Act.put, List.setIfInBounds_toArray, List.set_cons_zero, List.set_cons_succ, i64_w, i32_w]
      rfl
    refine pure_ (i := 2) (N := some 16) (v := ?_) (a' := ?_) #[true, false, true, false, false, false, false, false, false, false, false, false, false, false, false, false, false, false, false, false, false] rfl rfl (by kernel_rfl) (fun _ _ _ h => h) (Or.inl ⟨by rfl, ?_⟩) ?_ ?_
    rotate_left
    · intro w'
      go_simp
      with_reducible rfl
    rotate_left
    · simp only [Act.put, List.setIfInBounds_toArray, List.set_cons_zero, List.set_cons_succ, i64_w, i32_w]
      rfl
    refine pure_ (i := 3) (N := some 17) (v := ?_) (a' := ?_) #[true, false, true, true, false, false, false, false, false, false, false, false, false, false, false, false, false, false, false, false, false] rfl rfl (by kernel_rfl) (fun _ _ _ h => h) (Or.inl ⟨by rfl, ?_⟩) ?_ ?_
    rotate_left
    · intro w'
      go_simp
      with_reducible rfl
    rotate_left
    · simp only [Act.put, List.setIfInBounds_toArray, List.set_cons_zero, List.set_cons_succ, i64_w, i32_w]
      rfl
    refine pure_ (i := 4) (N := some 18) (v := ?_) (a' := ?_) #[true, false, true, true, true, false, false, false, false, false, false, false, false, false, false, false, false, false, false, false, false] rfl rfl (by kernel_rfl) (fun _ _ _ h => h) (Or.inl ⟨by rfl, ?_⟩) ?_ ?_
    rotate_left
    · intro w'
      go_simp
      with_reducible rfl
    rotate_left
    · simp only [Act.put, List.setIfInBounds_toArray, List.set_cons_zero, List.set_cons_succ, i64_w, i32_w]
      rfl
    refine take_ (i := 5) (N := some 19) (v := ?_) (a' := ?_) #[true, false, true, true, true, true, false, false, false, false, false, false, false, false, false, false, false, false, false, false, false] rfl rfl (by kernel_rfl) (fun _ _ _ h => h) (Or.inl ⟨by rfl, ?_⟩) hHeld ?_ ?_
    rotate_left
    · rintro w' ⟨h1, h2⟩
      go_simp
      with_reducible rfl
    rotate_left
    · simp only [Act.put, List.setIfInBounds_toArray, List.set_cons_zero, List.set_cons_succ, i64_w, i32_w]
      rfl
    refine one_ (i := 1) (N := some 15) #[true, true, true, true, true, true, false, false, false, false, false, false, false, false, false, false, false, false, false, false, false] rfl rfl (by kernel_rfl) (by decide) (fun K hK => ?_)
    refine goes_ Try.func27 (by kernel_rfl) rfl #[Value.pointer (some ⟨d, 0, none⟩)] (by rfl) rfl rfl (by (try simp only [List.map_toArray, List.map_cons, List.map_nil]); first | done | rfl) ?_
    refine (hU.out).mono ?_
    rintro e w4 ⟨rfl, rfl⟩
    refine ⟨_, rfl, ?_⟩
    refine hK.out _ _ ⟨c3, c0⟩ (fun hHeld => ?_)
    clear hK K
    refine norm_ (a' := ?_) ?_ ?_
    rotate_left
    · show Act.put _ (some 15) _ = _
      simp only [Act.put, List.setIfInBounds_toArray, List.set_cons_zero, List.set_cons_succ, i64_w, i32_w]
      rfl
    refine pure_ (i := 6) (N := some 20) (v := ?_) (a' := ?_) #[true, true, true, true, true, true, true, false, false, false, false, false, false, false, false, false, false, false, false, false, false] rfl rfl (by kernel_rfl) (fun _ _ _ h => h) (Or.inl ⟨by rfl, ?_⟩) ?_ ?_
    rotate_left
    · intro w'
      go_simp
      with_reducible rfl
    rotate_left
    · simp only [Act.put, List.setIfInBounds_toArray, List.set_cons_zero, List.set_cons_succ, i64_w, i32_w]
      rfl
    refine pure_ (i := 7) (N := some 21) (v := ?_) (a' := ?_) #[true, true, true, true, true, true, true, true, false, false, false, false, false, false, false, false, false, false, false, false, false] rfl rfl (by kernel_rfl) (fun _ _ _ h => h) (Or.inl ⟨by rfl, ?_⟩) ?_ ?_
    rotate_left
    · intro w'
      go_simp
      with_reducible rfl
    rotate_left
    · simp only [Act.put, List.setIfInBounds_toArray, List.set_cons_zero, List.set_cons_succ, i64_w, i32_w]
      rfl
    refine pure_ (i := 8) (N := some 22) (v := ?_) (a' := ?_) #[true, true, true, true, true, true, true, true, true, false, false, false, false, false, false, false, false, false, false, false, false] rfl rfl (by kernel_rfl) (fun _ _ _ h => h) (Or.inl ⟨by rfl, ?_⟩) ?_ ?_
    rotate_left
    · intro w'
      go_simp
      with_reducible rfl
    rotate_left
    · simp only [Act.put, List.setIfInBounds_toArray, List.set_cons_zero, List.set_cons_succ, i64_w, i32_w]
      rfl
    refine pure_ (i := 10) (N := some 24) (v := ?_) (a' := ?_) #[true, true, true, true, true, true, true, true, true, false, true, false, false, false, false, false, false, false, false, false, false] rfl rfl (by kernel_rfl) (fun _ _ _ h => h) (Or.inl ⟨by rfl, ?_⟩) ?_ ?_
    rotate_left
    · intro w'
      go_simp
      with_reducible rfl
    rotate_left
    · simp only [Act.put, List.setIfInBounds_toArray, List.set_cons_zero, List.set_cons_succ, i64_w, i32_w]
      rfl
    refine pure_ (i := 11) (N := some 25) (v := ?_) (a' := ?_) #[true, true, true, true, true, true, true, true, true, false, true, true, false, false, false, false, false, false, false, false, false] rfl rfl (by kernel_rfl) (fun _ _ _ h => h) (Or.inl ⟨by rfl, ?_⟩) ?_ ?_
    rotate_left
    · intro w'
      go_simp
      with_reducible rfl
    rotate_left
    · simp only [Act.put, List.setIfInBounds_toArray, List.set_cons_zero, List.set_cons_succ, i64_w, i32_w]
      rfl
    refine pure_ (i := 12) (N := some 26) (v := ?_) (a' := ?_) #[true, true, true, true, true, true, true, true, true, false, true, true, true, false, false, false, false, false, false, false, false] rfl rfl (by kernel_rfl) (fun _ _ _ h => h) (Or.inl ⟨by rfl, ?_⟩) ?_ ?_
    rotate_left
    · intro w'
      go_simp
      with_reducible rfl
    rotate_left
    · simp only [Act.put, List.setIfInBounds_toArray, List.set_cons_zero, List.set_cons_succ, i64_w, i32_w]
      rfl
    refine take_ (i := 13) (N := some 27) (v := ?_) (a' := ?_) #[true, true, true, true, true, true, true, true, true, false, true, true, true, true, false, false, false, false, false, false, false] rfl rfl (by kernel_rfl) (fun _ _ _ h => h) (Or.inl ⟨by rfl, ?_⟩) hHeld ?_ ?_
    rotate_left
    · rintro w' ⟨h1, h2⟩
      go_simp
      with_reducible rfl
    rotate_left
    · simp only [Act.put, List.setIfInBounds_toArray, List.set_cons_zero, List.set_cons_succ, i64_w, i32_w]
      rfl
    refine pure_ (i := 14) (N := some 28) (v := ?_) (a' := ?_) #[true, true, true, true, true, true, true, true, true, false, true, true, true, true, true, false, false, false, false, false, false] rfl rfl (by kernel_rfl) (fun _ _ _ h => h) (Or.inl ⟨by rfl, ?_⟩) ?_ ?_
    rotate_left
    · intro w'
      go_simp
      with_reducible rfl
    rotate_left
    · simp only [Act.put, List.setIfInBounds_toArray, List.set_cons_zero, List.set_cons_succ, i64_w, i32_w]
      rfl
    refine one_ (i := 9) (N := some 23) #[true, true, true, true, true, true, true, true, true, true, true, true, true, true, true, false, false, false, false, false, false] rfl rfl (by kernel_rfl) (by decide) (fun K hK => ?_)
    refine goes_ Try.func49 (by kernel_rfl) rfl #[Value.pointer (some ⟨d, 0, none⟩)] (by rfl) rfl rfl (by (try simp only [List.map_toArray, List.map_cons, List.map_nil]); first | done | rfl) ?_
    refine (hSz.out).mono ?_
    rintro e w4 ⟨rfl, rfl⟩
    refine ⟨_, rfl, ?_⟩
    refine hK.out _ _ ⟨c3, c0⟩ (fun hHeld => ?_)
    clear hK K
    refine norm_ (a' := ?_) ?_ ?_
    rotate_left
    · show Act.put _ (some 23) _ = _
      simp only [Act.put, List.setIfInBounds_toArray, List.set_cons_zero, List.set_cons_succ, i64_w, i32_w]
      rfl
    refine pure_ (i := 15) (N := some 29) (v := ?_) (a' := ?_) #[true, true, true, true, true, true, true, true, true, true, true, true, true, true, true, true, false, false, false, false, false] rfl rfl (by kernel_rfl) (fun _ _ _ h => h) (Or.inl ⟨by rfl, ?_⟩) ?_ ?_
    rotate_left
    · intro w'
      go_simp
      with_reducible rfl
    rotate_left
    · simp only [Act.put, List.setIfInBounds_toArray, List.set_cons_zero, List.set_cons_succ, i64_w, i32_w]
      rfl
    refine pure_ (i := 16) (N := some 30) (v := ?_) (a' := ?_) #[true, true, true, true, true, true, true, true, true, true, true, true, true, true, true, true, true, false, false, false, false] rfl rfl (by kernel_rfl) (fun _ _ _ h => h) (Or.inl ⟨by rfl, ?_⟩) ?_ ?_
    rotate_left
    · intro w'
      go_simp
      with_reducible rfl
    rotate_left
    · simp only [Act.put, List.setIfInBounds_toArray, List.set_cons_zero, List.set_cons_succ, i64_w, i32_w]
      rfl
    refine pure_ (i := 17) (N := some 31) (v := ?_) (a' := ?_) #[true, true, true, true, true, true, true, true, true, true, true, true, true, true, true, true, true, true, false, false, false] rfl rfl (by kernel_rfl) (fun _ _ _ h => h) (Or.inl ⟨by rfl, ?_⟩) ?_ ?_
    rotate_left
    · intro w'
      go_simp
      with_reducible rfl
    rotate_left
    · simp only [Act.put, List.setIfInBounds_toArray, List.set_cons_zero, List.set_cons_succ, i64_w, i32_w]
      rfl
    refine pure_ (i := 18) (N := some 32) (v := ?_) (a' := ?_) #[true, true, true, true, true, true, true, true, true, true, true, true, true, true, true, true, true, true, true, false, false] rfl rfl (by kernel_rfl) (fun _ _ _ h => h) (Or.inl ⟨by rfl, ?_⟩) ?_ ?_
    rotate_left
    · intro w'
      go_simp
      with_reducible rfl
    rotate_left
    · simp only [Act.put, List.setIfInBounds_toArray, List.set_cons_zero, List.set_cons_succ, i64_w, i32_w]
      rfl
    refine pure_ (i := 19) (N := some 33) (v := ?_) (a' := ?_) #[true, true, true, true, true, true, true, true, true, true, true, true, true, true, true, true, true, true, true, true, false] rfl rfl (by kernel_rfl) (fun _ _ _ h => h) (Or.inl ⟨by rfl, ?_⟩) ?_ ?_
    rotate_left
    · intro w'
      go_simp
      with_reducible rfl
    rotate_left
    · simp only [Act.put, List.setIfInBounds_toArray, List.set_cons_zero, List.set_cons_succ, i64_w, i32_w]
      rfl
    refine pure_ (i := 20) (N := some 34) (v := ?_) (a' := ?_) #[true, true, true, true, true, true, true, true, true, true, true, true, true, true, true, true, true, true, true, true, true] rfl rfl (by kernel_rfl) (fun _ _ _ h => h) (Or.inl ⟨by rfl, ?_⟩) ?_ ?_
    rotate_left
    · intro w'
      go_simp
      with_reducible rfl
    rotate_left
    · simp only [Act.put, List.setIfInBounds_toArray, List.set_cons_zero, List.set_cons_succ, i64_w, i32_w]
      rfl
    refine done_ (by kernel_rfl) ?_
    replace hb3 := hid (below_drew hb3.out)
    have hrd2 := hid (fun (n : Nat) (hn : n < N) => hRd.out n hn hg)
    clear hRd
    go_wp2_with fail
    go_loopg [6] N (fun g v6 wr => ∃ (i : Nat), v6 = .int .i64 (i : Int) ∧ i + g = N ∧ Hid (wr = w3.drew))
    case atStart => exact ⟨0, by first | rfl | simp, by omega, hid rfl⟩
    case round =>
      obtain ⟨i, rfl, hi, hwr⟩ := hrel
      rw [hwr.out]
      clear hwr
      cases gk with
      | zero =>
        obtain rfl : i = N := by omega
        go_wp2_with fail
        go_ret
        exact ⟨rfl, hb3.out⟩
      | succ g =>
        have hlt : (i : Int) < (N : Int) := by omega
        have hRi := hid (hrd2.out i (by omega))
        obtain ⟨ad, ea, hcl⟩ := hcell.out i (by omega)
        generalize st.now.getD i ⟨#[]⟩ = y at *
        clear hcell hrd2
        subst ea
        replace hcl : w3.drew.cell? (ad.add i) = some (.string y) := hcl
        go_wp2_with (first | ((with_reducible refine Calls.mono hRi.out ?_); rintro e w4 ⟨rfl, hwe⟩; rw [← hwe]; clear hwe))
        go_roundg g
        case measure => omega
        case rel => exact ⟨i + 1, by first | rfl | simp, by omega, hid rfl⟩
theorem Two.made {w w1 w2 : World} {d x : Nat} {st rst : St} (hD : DiskAt (fun i => w.heap.size ≤ i) w1 d st) (hb1 : Below w.heap.size w w1) (hR : RefAt (fun i => w1.heap.size ≤ i) w2 x rst) (hb2 : Below w1.heap.size w1 w2) : Two (fun i => i < w.heap.size) w2 d x st rst := by
  refine ⟨_, _, (hD.tight).below hb2, hR.tight, fun i hi => ⟨by have := hi.1; omega, Nat.lt_of_lt_of_le hi.2 hb2.size⟩, fun i hi => ⟨by have := hi.1; have := hb1.size; omega, hi.2⟩, fun i hi h2 => by have := hi.2; have := h2.1; omega⟩
set_option maxRecDepth 100000 in
theorem disks.ok (n : Nat) (hn : 8 ≤ n ∧ n ≤ 640) (w : World) :
    Calls Try.prog 31 #[.int .i64 (n : Int)] w fun e w' => ∃ d x, e = .returned (.tuple #[.pointer (some ⟨d, 0, none⟩), .pointer (some ⟨x, 0, none⟩), .bool true]) ∧ Two (fun i => i < w.heap.size) w' d x { now := List.replicate n zeros, loose := [], fuse := -1, gone := false } { now := List.replicate n zeros, loose := [], fuse := -1, gone := false } ∧ Below w.heap.size w w' := by
  have h1 := hid (New.ok n hn w)
  have h2 := hid (fun W => RNew.ok n hn W)
  generalize zeros = Z at *
  go_enter Try.func31, Try.ntmps31
  go_wp2_with (first | ((with_reducible refine Calls.mono h1.out ?_); rintro e w1 ⟨d, rfl, hD, hb1⟩; replace hD := hid hD; replace hb1 := hid hb1) | ((with_reducible refine Calls.mono (h2.out _) ?_); rintro e w2 ⟨x, rfl, hR, hb2⟩; replace hR := hid hR; replace hb2 := hid hb2))
  go_ret3
  exact ⟨d, x, rfl, Two.made hD.out hb1.out hR.out hb2.out, hb1.out.trans (hb2.out.mono hb1.out.size)⟩
set_option maxRecDepth 100000 in
theorem disks.no (n : Int) (hn : n < 8 ∨ 640 < n) (w : World) :
    Calls Try.prog 31 #[.int .i64 n] w fun e w' => e = .returned (.tuple #[.pointer none, .pointer none, .bool false]) ∧ w = w' := by
  have h1 := hid (New.no n hn w)
  have h2 := hid (RNew.no n hn w)
  clear hn
  go_enter Try.func31, Try.ntmps31
  go_wp2_with (first | ((with_reducible refine Calls.mono h1.out ?_); rintro e w1 ⟨rfl, rfl⟩) | ((with_reducible refine Calls.mono h2.out ?_); rintro e w2 ⟨rfl, rfl⟩))
  go_ret3
  exact ⟨rfl, rfl⟩
end Go.Proofs.Ytnffhdlkkfphbaa.D
