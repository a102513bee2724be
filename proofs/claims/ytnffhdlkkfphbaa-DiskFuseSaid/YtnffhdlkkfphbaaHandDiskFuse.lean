/- Behind as many writes as the fuse says none is done any more, and the power is gone, till a crash; Sync counts as none. No condition. -/
import Derived.Test.YtnffhdlkkfphbaaDf
namespace Go.Proofs.Ytnffhdlkkfphbaa.Pure
set_option linter.unusedVariables false
set_option linter.unusedSimpArgs false
open Go.RowKit Go.Proofs.Ytnffhdlkkfphbaa.D Go.Proofs.YtnffhdlkkfphbaaW.PrintWords Go.Proofs.YtnffhdlkkfphbaaW.PrintLast Go.Proofs.YtnffhdlkkfphbaaW.PrintMore
open Go.Lib (hid)
/-- The disk behind i rounds of a write and a Sync. -/
def stf (now : List ByteArray) (f i : Nat) : St := { now := now, loose := [], fuse := (f : Int) - (i : Int), gone := false }
def stg (now : List ByteArray) : St := { now := now, loose := [], fuse := 0, gone := true }
theorem stf_write (now : List ByteArray) (hn : now.length = 8) (f i k : Nat) (hk : k < 8) (X : ByteArray) (hX : X.size = 256) (hi : i < f) :
    writes (stf now f i) (k : Int) X = (0, { stf (now.set k X) f (i + 1) with loose := [((k : Int), now.getD k ⟨#[]⟩)] }) := by
  unfold writes stf
  simp only [hn, hX, hasS]
  rw [if_neg (by decide), if_neg (by omega), if_neg (by omega), if_neg (by omega)]
  simp
  omega
theorem stf_down (now : List ByteArray) (hn : now.length = 8) (f k : Nat) (hk : k < 8) (X : ByteArray) (hX : X.size = 256) :
    writes (stf now f f) (k : Int) X = (5, stg now) := by
  unfold writes stf stg
  simp only [hn, hX, hasS]
  rw [if_neg (by decide), if_neg (by omega), if_neg (by omega), if_pos (by omega)]
  simp
theorem stg_write (now : List ByteArray) (k : Int) (X : ByteArray) : writes (stg now) k X = (5, stg now) := rfl
/-- What the disk is at the loop's i. -/
def stl (now : List ByteArray) (f i : Nat) : St := if i ≤ f then stf now f i else stg now
theorem tmod_nat (i m : Nat) : Int.tmod (i : Int) (m : Int) = ((i % m : Nat) : Int) := rfl
theorem fuse_round (B d f i : Nat) (now : List ByteArray) (hn : now.length = 8) (X : ByteArray) (hX : X.size = 256) (w : World) (h : DiskOn B w d (stl now f i)) (hB : B ≤ w.heap.size) :
    Calls Try.prog 23 #[.pointer (some ⟨d, 0, none⟩), .int .i64 ((i % 8 : Nat) : Int), .string X] w fun e w' => e = .returned (.int .i64 (if i < f then 0 else 5)) ∧ Below B w w' ∧
      ∀ w2, Below w'.heap.size w' w2 → Calls Try.prog 26 #[.pointer (some ⟨d, 0, none⟩)] w2 fun e w3 => e = .returned (.int .i64 (if i < f then 0 else 5)) ∧ Below B w2 w3 ∧ ∃ now', now'.length = 8 ∧ DiskOn B w3 d (stl now' f (i + 1)) := by
  have hk : i % 8 < 8 := Nat.mod_lt _ (by decide)
  refine (Write.on B d (stl now f i) ((i % 8 : Nat) : Int) X w h hB (by unfold stl; split <;> exact Nat.zero_le _)).mono ?_
  rintro e w' ⟨rfl, hD, hb⟩
  by_cases hi : i < f
  · have e1 : writes (stl now f i) ((i % 8 : Nat) : Int) X = (0, { stf (now.set (i % 8) X) f (i + 1) with loose := [(((i % 8 : Nat) : Int), now.getD (i % 8) ⟨#[]⟩)] }) := by
      unfold stl
      rw [if_pos (by omega)]
      exact stf_write now hn f i (i % 8) hk X hX hi
    rw [e1] at hD ⊢
    rw [if_pos hi]
    refine ⟨rfl, hb, fun w2 h2 => ?_⟩
    have hbB := Nat.le_trans hB hb.size
    refine (Sync.on B d _ w2 (hD.below h2) (Nat.le_trans hbB h2.size)).mono ?_
    rintro e w3 ⟨rfl, hD3, hb3⟩
    refine ⟨rfl, hb3, now.set (i % 8) X, by rw [List.length_set]; exact hn, ?_⟩
    unfold stl
    rw [if_pos (by omega)]
    exact hD3
  · have e1 : writes (stl now f i) ((i % 8 : Nat) : Int) X = (5, stg now) := by
      unfold stl
      by_cases he : i ≤ f
      · obtain rfl : i = f := by omega
        rw [if_pos he]
        exact stf_down now hn i (i % 8) hk X hX
      · rw [if_neg he]
        rfl
    rw [e1] at hD ⊢
    rw [if_neg hi]
    refine ⟨rfl, hb, fun w2 h2 => ?_⟩
    have hbB := Nat.le_trans hB hb.size
    refine (Sync.on B d _ w2 (hD.below h2) (Nat.le_trans hbB h2.size)).mono ?_
    rintro e w3 ⟨rfl, hD3, hb3⟩
    refine ⟨rfl, hb3, now, hn, ?_⟩
    unfold stl
    rw [if_neg (by omega)]
    exact hD3
theorem half_neg (a : Int) (h : -9223372036854775808 ≤ a ∧ a ≤ 9223372036854775807) (hn : a < 0) : ∃ f : Nat, (wrap64 (-wrap64 (a + 1))).tmod 31 = (f : Int) ∧ f < 31 := by
  have e : wrap64 (-wrap64 (a + 1)) = ((-(a + 1)).toNat : Int) := by unfold wrap64; omega
  exact ⟨(-(a + 1)).toNat % 31, by rw [e]; rfl, Nat.mod_lt _ (by decide)⟩
theorem half_pos (a : Int) (hn : ¬ a < 0) : ∃ f : Nat, a % 31 = (f : Int) ∧ f < 31 := ⟨(a % 31).toNat, by omega, by omega⟩
theorem half_ (a : Int) (h : -9223372036854775808 ≤ a ∧ a ≤ 9223372036854775807) : ∃ f : Nat, (a < 0 → (wrap64 (-wrap64 (a + 1))).tmod 31 = (f : Int)) ∧ (¬ a < 0 → a % 31 = (f : Int)) ∧ f < 31 := by
  by_cases hn : a < 0
  · obtain ⟨f, h1, h2⟩ := half_neg a h hn
    exact ⟨f, fun _ => h1, fun h => absurd hn h, h2⟩
  · obtain ⟨f, h1, h2⟩ := half_pos a hn
    exact ⟨f, fun h => absurd h hn, fun _ => h1, h2⟩
theorem stl_read (now : List ByteArray) (hn : now.length = 8) (f n : Nat) : reads (stl now f n) 0 = (if n ≤ f then (now.getD 0 ⟨#[]⟩, 0) else (⟨#[]⟩, 5)) := by
  unfold stl
  split
  · unfold reads stf
    simp [hn]
  · rfl
theorem stl_gone (now : List ByteArray) (f n : Nat) : (!(stl now f n).gone) = decide (n ≤ f) := by
  unfold stl
  split
  · simp [stf, *]
  · simp [stg, *]
theorem stl_loose (now : List ByteArray) (f n : Nat) : (stl now f n).loose = [] := by
  unfold stl
  split <;> rfl
theorem stl_now (now : List ByteArray) (f n : Nat) : (stl now f n).now = now := by
  unfold stl
  split <;> rfl
theorem last_write (B d : Nat) (now : List ByteArray) (hn : now.length = 8) (Y : ByteArray) (hY : Y.size = 256) (w : World) (h : DiskOn B w d { now := now, loose := [], fuse := -1, gone := false }) (hB : B ≤ w.heap.size) :
    Calls Try.prog 23 #[.pointer (some ⟨d, 0, none⟩), .int .i64 0, .string Y] w fun e w' => e = .returned (.int .i64 0) ∧ Below B w w' := by
  refine (Write.on B d _ 0 Y w h hB (Nat.zero_le _)).mono ?_
  rintro e w' ⟨rfl, hD, hb⟩
  refine ⟨?_, hb⟩
  unfold writes
  simp [hn, hY, hasS]
set_option maxHeartbeats 8000000 in
set_option maxRecDepth 100000 in
theorem DiskFuse_walk (a0 a1 : Int) (w : World) (w0 : (Lit.int .i64 a0).wf = true) (w1 : (Lit.int .i64 a1).wf = true) : 
    Calls Try.prog 8 #[.int .i64 a0, .int .i64 a1] w fun e w' => e = .returned (.bool true) ∧ Below w.heap.size w w' := by
  have b0 := hid (bounds_i64 w0)
  have b1 := hid (bounds_i64 w1)
  clear w0 w1
  obtain ⟨B, hB⟩ : ∃ B, B = w.heap.size := ⟨_, rfl⟩
  rw [← hB]
  replace hB := hid hB
  have hE := hid (fun W => examples.calls W)
  have hN : Hid (∀ W : World, B ≤ W.heap.size → Calls Try.prog 21 #[.int .i64 8] W fun e w' => ∃ d, e = .returned (.tuple #[.pointer (some ⟨d, 0, none⟩), .int .i64 0]) ∧ DiskOn B w' d { now := List.replicate 8 zeros, loose := [], fuse := -1, gone := false } ∧ Below W.heap.size W w') := hid (fun W hW => New.on B 8 (by omega) W hW)
  generalize zeros = Z at *
  have hX := hid (fill_some ⟨#[120]⟩).2
  have hY := hid (fill_some ⟨#[121]⟩).2
  have hFX := hid (fun W : World => fill.calls ⟨#[120]⟩ W)
  have hFY := hid (fun W : World => fill.calls ⟨#[121]⟩ W)
  generalize fillB ⟨#[120]⟩ = X at *
  generalize fillB ⟨#[121]⟩ = Y at *
  have hU := hid (fun (W : World) (d : Nat) (st : St) (h : DiskOn B W d st) => Up.calls _ d st W h)
  obtain ⟨f, hf0, hf1, hf31⟩ := half_ a0 b0.out
  obtain ⟨n, hn0, hn1, hn31⟩ := half_ a1 b1.out
  replace hf0 := hid (And.intro hf0 hf1)
  replace hn0 := hid (And.intro hn0 hn1)
  clear hf1 hn1 b0 b1
  by_cases h0 : a0 < 0 <;> by_cases h1 : a1 < 0
  all_goals
    go_enter Try.func8, Try.ntmps8
    (try dsimp only [List.append])
    go_upto_region 4 with (first | (with_reducible refine Calls.mono (hE.out _) ?_; rintro e w1 ⟨rfl, hb1⟩; replace hb1 := hid hb1))
    have hl1 : Hid (B ≤ w1.heap.size) := hid (Nat.le_trans (Nat.le_of_eq hB.out) hb1.out.size)
    go_upto_region 13 with (first | (with_reducible refine Calls.mono (hN.out _ hl1.out) ?_; rintro e w2 ⟨d, rfl, hD2, hb2⟩; replace hD2 := hid hD2; replace hb2 := hid hb2))
    replace hb2 : Hid (Below B w w2) := hid (Below.trans (by rw [hB.out]; exact hb1.out) (hb2.out.mono hl1.out))
    have hl2 : Hid (B ≤ w2.heap.size) := hid (Nat.le_trans (Nat.le_of_eq hB.out) hb2.out.size)
    clear hE hN hb1 hl1
    (first | rw [hf0.out.1 h0] | rw [hf0.out.2 h0])
    (first | rw [hn0.out.1 h1] | rw [hn0.out.2 h1])
    have hFu := hid (Fuse.on B d _ (f : Int) (by omega) w2 hD2.out hl2.out)
    clear hf0 hn0 hD2 h0 h1
    go_upto_region 14 with (first | (with_reducible refine Calls.mono hFu.out ?_; rintro e w3 ⟨rfl, hD3, hb3⟩; replace hD3 := hid hD3; replace hb3 := hid hb3))
    replace hb3 : Hid (Below B w w3) := hid (Below.trans hb2.out hb3.out)
    replace hD3 : Hid (∃ now, now.length = 8 ∧ DiskOn B w3 d (stl now f 0)) := hid ⟨List.replicate 8 Z, List.length_replicate, by
      have e : stl (List.replicate 8 Z) f 0 = { ({ now := List.replicate 8 Z, loose := [], fuse := -1, gone := false } : St) with fuse := max (-1) (f : Int) } := by
        unfold stl stf
        rw [if_pos (Nat.zero_le _)]
        congr 1
      rw [e]
      exact hD3.out⟩
    clear hFu hb2 hl2
    go_upto_region 14 with fail
    go_wp2_with fail
    go_loopg [8] n (fun g v8 wr => ∃ (i : Nat), v8 = .int .i64 (i : Int) ∧ i + g = n ∧ Hid (∃ now, now.length = 8 ∧ DiskOn B wr d (stl now f i)) ∧ Hid (Below B w wr))
    case atStart => exact ⟨0, rfl, by omega, hD3, hb3⟩
    case round =>
      clear hD3 hb3
      obtain ⟨i, rfl, hi, hD, hb⟩ := hrel
      have hl : Hid (B ≤ wr.heap.size) := hid (Nat.le_trans (Nat.le_of_eq hB.out) hb.out.size)
      obtain ⟨now, hn8, hDn⟩ := hD.out
      replace hDn := hid hDn
      clear hD
      cases gk with
      | zero =>
        obtain rfl : i = n := by omega
        have hU1 : Hid (Calls Try.prog 27 #[.pointer (some ⟨d, 0, none⟩)] wr fun e w' => e = .returned (.bool (decide (i ≤ f))) ∧ wr = w') := hid (by
          have h := Up.calls _ d _ wr hDn.out
          rw [stl_gone] at h
          exact h)
        have hR1 : Hid (Calls Try.prog 24 #[.pointer (some ⟨d, 0, none⟩), .int .i64 0] wr fun e w' => e = .returned (.tuple #[.string (if i ≤ f then (now.getD 0 ⟨#[]⟩, (0 : Int)) else (⟨#[]⟩, 5)).1, .int .i64 (if i ≤ f then (now.getD 0 ⟨#[]⟩, (0 : Int)) else (⟨#[]⟩, 5)).2]) ∧ wr = w') := hid (by
          have h := Read.calls _ d _ 0 wr hDn.out
          rw [stl_read now hn8] at h
          exact h)
        have hC1 : Hid (Calls Try.prog 28 #[.pointer (some ⟨d, 0, none⟩), .slice none 0 0] wr fun e w' => e = .returned (.tuple #[]) ∧ DiskOn B w' d { now := now, loose := [], fuse := -1, gone := false } ∧ Below B wr w') := hid (by
          have h := Crash.on B d (stl now f i) (.slice none 0 0) [] wr hDn.out hl.out (Kd.R_nil _ _ _ _ _) (Nat.zero_le _) (by rw [stl_loose]; exact Nat.zero_le _)
          rw [stl_loose, stl_now] at h
          exact h)
        clear hDn hFX hX
        by_cases hif : i ≤ f
        · have hdi : decide (i ≤ f) = true := decide_eq_true hif
          rw [if_pos hif] at hR1
          rw [hdi] at hU1
          dsimp only at hR1
          have hfi : ¬ (f : Int) < (i : Int) := by omega
          generalize now.getD 0 ⟨#[]⟩ = x0 at *
          go_upto_region 24 with (first | (with_reducible refine Calls.mono hU1.out ?_; rintro e w5 ⟨rfl, rfl⟩) | (with_reducible refine Calls.mono hR1.out ?_; rintro e w5 ⟨rfl, rfl⟩) | (with_reducible refine Calls.mono hC1.out ?_; rintro e w6 ⟨rfl, hD6, hb6⟩; replace hD6 := hid hD6; replace hb6 := hid hb6))
          replace hb6 : Hid (Below B w w6) := hid (Below.trans hb.out hb6.out)
          have hl6 : Hid (B ≤ w6.heap.size) := hid (Nat.le_trans (Nat.le_of_eq hB.out) hb6.out.size)
          have hU2 : Hid (Calls Try.prog 27 #[.pointer (some ⟨d, 0, none⟩)] w6 fun e w' => e = .returned (.bool true) ∧ w6 = w') := hid (Up.calls _ d _ w6 hD6.out)
          have hW9 : Hid (∀ W, Below w6.heap.size w6 W → Calls Try.prog 23 #[.pointer (some ⟨d, 0, none⟩), .int .i64 0, .string Y] W fun e w' => e = .returned (.int .i64 0) ∧ Below B W w') := hid (fun W hW => last_write B d now hn8 Y hY.out W (hD6.out.below hW) (Nat.le_trans hl6.out hW.size))
          go_wp2_with (first | (with_reducible refine Calls.mono hU2.out ?_; rintro e w7 ⟨rfl, rfl⟩) | (with_reducible refine Calls.mono (hFY.out _) ?_; rintro e w8 ⟨rfl, hb8⟩; replace hb8 := hid hb8) | (with_reducible refine Calls.mono (hW9.out _ hb8.out) ?_; rintro e w9 ⟨rfl, hb9⟩; replace hb9 := hid hb9))
          go_ret
          exact ⟨rfl, Below.trans (Below.trans hb6.out (hb8.out.mono hl6.out)) hb9.out⟩
        · have hdi : decide (i ≤ f) = false := decide_eq_false hif
          rw [if_neg hif] at hR1
          rw [hdi] at hU1
          dsimp only at hR1
          have hfi : (f : Int) < (i : Int) := by omega
          go_upto_region 24 with (first | (with_reducible refine Calls.mono hU1.out ?_; rintro e w5 ⟨rfl, rfl⟩) | (with_reducible refine Calls.mono hR1.out ?_; rintro e w5 ⟨rfl, rfl⟩) | (with_reducible refine Calls.mono hC1.out ?_; rintro e w6 ⟨rfl, hD6, hb6⟩; replace hD6 := hid hD6; replace hb6 := hid hb6))
          replace hb6 : Hid (Below B w w6) := hid (Below.trans hb.out hb6.out)
          have hl6 : Hid (B ≤ w6.heap.size) := hid (Nat.le_trans (Nat.le_of_eq hB.out) hb6.out.size)
          have hU2 : Hid (Calls Try.prog 27 #[.pointer (some ⟨d, 0, none⟩)] w6 fun e w' => e = .returned (.bool true) ∧ w6 = w') := hid (Up.calls _ d _ w6 hD6.out)
          have hW9 : Hid (∀ W, Below w6.heap.size w6 W → Calls Try.prog 23 #[.pointer (some ⟨d, 0, none⟩), .int .i64 0, .string Y] W fun e w' => e = .returned (.int .i64 0) ∧ Below B W w') := hid (fun W hW => last_write B d now hn8 Y hY.out W (hD6.out.below hW) (Nat.le_trans hl6.out hW.size))
          go_wp2_with (first | (with_reducible refine Calls.mono hU2.out ?_; rintro e w7 ⟨rfl, rfl⟩) | (with_reducible refine Calls.mono (hFY.out _) ?_; rintro e w8 ⟨rfl, hb8⟩; replace hb8 := hid hb8) | (with_reducible refine Calls.mono (hW9.out _ hb8.out) ?_; rintro e w9 ⟨rfl, hb9⟩; replace hb9 := hid hb9))
          go_ret
          exact ⟨rfl, Below.trans (Below.trans hb6.out (hb8.out.mono hl6.out)) hb9.out⟩
      | succ g =>
        have hlt : (i : Int) < (n : Int) := by omega
        have hR : Hid (∀ W : World, Below wr.heap.size wr W → Calls Try.prog 23 #[.pointer (some ⟨d, 0, none⟩), .int .i64 ((i : Int) % 8), .string X] W fun e w' => e = .returned (.int .i64 (if i < f then 0 else 5)) ∧ Below B W w' ∧
            ∀ w2, Below w'.heap.size w' w2 → Calls Try.prog 26 #[.pointer (some ⟨d, 0, none⟩)] w2 fun e w3 => e = .returned (.int .i64 (if i < f then 0 else 5)) ∧ Below B w2 w3 ∧ ∃ now', now'.length = 8 ∧ DiskOn B w3 d (stl now' f (i + 1))) := hid (fun W hW => fuse_round B d f i now hn8 X hX.out W (hDn.out.below hW) (Nat.le_trans hl.out hW.size))
        clear hDn hFY hY hX
        by_cases hif : i < f
        · have hif2 : (i : Int) < (f : Int) := by omega
          rw [if_pos hif] at hR
          go_wp2_with (first | (with_reducible refine Calls.mono (hFX.out _) ?_; rintro e w4 ⟨rfl, hb4⟩; replace hb4 := hid hb4) | (with_reducible refine Calls.mono (hR.out _ hb4.out) ?_; rintro e w5 ⟨rfl, hb5, hS⟩; replace hb5 := hid hb5; replace hS := hid (hS _ (Below.refl _ _))) | (with_reducible refine Calls.mono hS.out ?_; rintro e w6 ⟨rfl, hb6, hD6⟩; replace hD6 := hid hD6; replace hb6 := hid hb6))
          go_roundg g
          case measure => omega
          case rel => exact ⟨i + 1, by first | rfl | simp, by omega, hD6, hid (Below.trans (Below.trans (Below.trans hb.out (hb4.out.mono hl.out)) hb5.out) hb6.out)⟩
        · have hif2 : ¬ (i : Int) < (f : Int) := by omega
          rw [if_neg hif] at hR
          go_wp2_with (first | (with_reducible refine Calls.mono (hFX.out _) ?_; rintro e w4 ⟨rfl, hb4⟩; replace hb4 := hid hb4) | (with_reducible refine Calls.mono (hR.out _ hb4.out) ?_; rintro e w5 ⟨rfl, hb5, hS⟩; replace hb5 := hid hb5; replace hS := hid (hS _ (Below.refl _ _))) | (with_reducible refine Calls.mono hS.out ?_; rintro e w6 ⟨rfl, hb6, hD6⟩; replace hD6 := hid hD6; replace hb6 := hid hb6))
          go_roundg g
          case measure => omega
          case rel => exact ⟨i + 1, by first | rfl | simp, by omega, hD6, hid (Below.trans (Below.trans (Below.trans hb.out (hb4.out.mono hl.out)) hb5.out) hb6.out)⟩
end Go.Proofs.Ytnffhdlkkfphbaa.Pure
