/- A disk does, deed by deed, just what the chapter says, to each byte of each sector, wherever the power goes, and whatever is kept. No condition. -/
import Derived.Test.YtnffhdlkkfphbaaRa
namespace Go.Proofs.Ytnffhdlkkfphbaa.Pure
set_option linter.unusedVariables false
set_option linter.unusedSimpArgs false
open Go.RowKit Go.Proofs.Ytnffhdlkkfphbaa.D Go.Proofs.YtnffhdlkkfphbaaW.PrintWords Go.Proofs.YtnffhdlkkfphbaaW.PrintLast Go.Proofs.YtnffhdlkkfphbaaW.PrintMore
open Go.Lib (hid)
theorem below_of_fr {B : Nat} {W W' : World} (h : Fr (fun q => ¬ q < B) W W') (hB : B ≤ W.heap.size) : Below B W W' := ⟨h.os, h.tape, h.output, h.size, fun k hk => h.keep k (by omega) (fun hn => hn hk)⟩
theorem made_state (n : Nat) (hn : 8 ≤ n ∧ n ≤ 640) (w : World) : Calls Try.prog 31 #[.int .i64 (n : Int)] w fun e w' => ∃ d x, e = .returned (.tuple #[.pointer (some ⟨d, 0, none⟩), .pointer (some ⟨x, 0, none⟩), .bool true]) ∧ (∃ st rf, Two (fun i => i < w.heap.size) w' d x st (withF st rf) ∧ D.Alike st rf 0) ∧ Below w.heap.size w w' := by
  refine (disks.ok n hn w).mono ?_
  rintro e w' ⟨d, x, rfl, h1, h2⟩
  exact ⟨d, x, rfl, ⟨_, -1, h1, ⟨(by decide : (-1 : Int) = max (-1) (-1)), (by decide : (-9223372036854775808 : Int) ≤ -1 ∧ (-1 : Int) ≤ 9223372036854775807), List.nodup_nil, Nat.zero_le _⟩⟩, h2⟩
set_option maxHeartbeats 2000000 in
set_option maxRecDepth 100000 in
theorem plays_no (a0 : Int) (A1 : Option Addr) (len1 c1 : Nat) (w : World) (hn : a0 < 8 ∨ 640 < a0) : 
    Calls Try.prog 11 #[.int .i64 a0, .slice A1 len1 c1] w fun e w' => e = .returned (.bool true) ∧ Below w.heap.size w w' := by
  have hE := hid (fun W => examples.calls W)
  have hD := hid (fun W => disks.no a0 hn W)
  rcases hn with hn | hn
  · have h1 : ¬ (40 < a0) := by omega
    clear hn
    go_enter Try.func11, Try.ntmps11
    (try dsimp only [List.append])
    go_wp2_with (first | ((with_reducible refine Calls.mono (hE.out _) ?_); rintro e w1 ⟨rfl, hb1⟩; replace hb1 := hid hb1) | ((with_reducible refine Calls.mono (hD.out _) ?_); rintro e w2 ⟨rfl, rfl⟩))
    go_ret
    exact ⟨rfl, hb1.out⟩
  · have h1 : 40 < a0 := by omega
    have h2 : ¬ a0 ≤ 640 := by omega
    clear hn
    go_enter Try.func11, Try.ntmps11
    (try dsimp only [List.append])
    go_wp2_with (first | ((with_reducible refine Calls.mono (hE.out _) ?_); rintro e w1 ⟨rfl, hb1⟩; replace hb1 := hid hb1) | ((with_reducible refine Calls.mono (hD.out _) ?_); rintro e w2 ⟨rfl, rfl⟩))
    go_ret
    exact ⟨rfl, hb1.out⟩
set_option maxHeartbeats 2000000 in
set_option maxRecDepth 100000 in
theorem plays_yes (a0 : Int) (A1 : Option Addr) (len1 c1 : Nat) (w : World) (hn : 8 ≤ a0 ∧ a0 ≤ 640) (hR : RowD w w.heap.size A1 len1) : 
    Calls Try.prog 11 #[.int .i64 a0, .slice A1 len1 c1] w fun e w' => e = .returned (.bool true) ∧ Below w.heap.size w w' := by
  have hE := hid (fun W => examples.calls W)
  have hM := hid (fun (n : Nat) (hn : 8 ≤ n ∧ n ≤ 640) W => made_state n hn W)
  obtain ⟨B, hB⟩ : ∃ B, B = w.heap.size := ⟨_, rfl⟩
  rw [← hB] at hR ⊢
  replace hB := hid hB
  replace hR := hid hR
  obtain ⟨N, hN, hN8⟩ : ∃ N : Nat, ((40 < a0 → 8 + a0 % 33 = (N : Int)) ∧ (¬ 40 < a0 → a0 = (N : Int))) ∧ 8 ≤ N ∧ N ≤ 640 := by
    by_cases h : 40 < a0
    · exact ⟨(8 + a0 % 33).toNat, ⟨fun _ => by omega, fun h2 => absurd h h2⟩, by omega, by omega⟩
    · exact ⟨a0.toNat, ⟨fun h2 => absurd h2 h, fun _ => by omega⟩, by omega, by omega⟩
  obtain ⟨hN1, hN2⟩ := hN
  have hN1' : Hid (40 < a0 → 8 + a0 % 33 = (N : Int)) := hid hN1
  have hN2' : Hid (a0 ≤ 40 → a0 = (N : Int)) := hid (fun h => hN2 (by omega))
  have hMN := hid (fun W => hM.out N hN8 W)
  have h640 : a0 ≤ 640 := hn.2
  have hpos : 0 ≤ a0 := by omega
  clear hN1 hN2 hM hN8 hn
  by_cases hbig : 40 < a0
  all_goals
    go_enter Try.func11, Try.ntmps11
    (try dsimp only [List.append])
    go_upto_region 6 with (first | ((with_reducible refine Calls.mono (hE.out _) ?_); rintro e w1 ⟨rfl, hb1⟩; replace hb1 := hid hb1))
    (first | rw [hN1'.out hbig] | (have e := hN2'.out (by omega); subst e))
    clear hN1' hN2' hE
    go_upto_region 9 with (first | ((with_reducible refine Calls.mono (hMN.out _) ?_); rintro e w2 ⟨d, x, rfl, hJ, hb2⟩; replace hJ := hid hJ; replace hb2 := hid hb2))
    replace hJ : Hid (∃ st rf, Two (fun i => i < B) w2 d x st (withF st rf) ∧ D.Alike st rf 0) := hid (by
      obtain ⟨st, rf, h1, h2⟩ := hJ.out
      exact ⟨st, rf, h1.more (fun q _ hq => by have := hB.out; have := hb1.out.size; omega), h2⟩)
    have hb : Hid (Below B w w2) := hid (by rw [hB.out]; exact hb1.out.trans (hb2.out.mono hb1.out.size))
    clear hb1 hb2 hMN
    obtain ⟨n, hn⟩ : ∃ n : Nat, n = min len1 60 := ⟨_, rfl⟩
    replace hn := hid hn
    go_wp2_with fail
    go_loopg [9] n (fun g v9 wr => ∃ (i : Nat), v9 = .int .i64 (i : Int) ∧ i + g = n ∧ Hid (∃ st rf, Two (fun q => q < B) wr d x st (withF st rf) ∧ D.Alike st rf i) ∧ Hid (Below B w wr))
    case atStart => exact ⟨0, by first | rfl | simp, by first | omega | simp, hJ, hb⟩
    case round =>
      clear hJ hb
      obtain ⟨i, rfl, hi, hJ, hb⟩ := hrel
      have hl : Hid (B ≤ wr.heap.size) := hid (Nat.le_trans (Nat.le_of_eq hB.out) hb.out.size)
      cases gk with
      | zero =>
        obtain rfl : i = n := by omega
        have hor : Hid (¬ (i : Int) < (len1 : Int) ∨ ((i : Int) < (len1 : Int) ∧ ¬ (i : Int) < 60)) := hid (by have := hn.out; omega)
        clear hn hi hJ hR
        rcases hor.out with hq | ⟨hq, hq2⟩
        all_goals
          clear hor
          go_wp2_with fail
          go_ret
          exact ⟨rfl, hb.out⟩
      | succ g =>
        have hi60 : (i : Int) < 60 := by have := hn.out; omega
        have hil : (i : Int) < (len1 : Int) := by have := hn.out; omega
        obtain ⟨ad, v, ea, hbl, hkb, hnb, hrow, k0, k1, k2, k3, k4⟩ := hR.out i (by omega)
        have hmv : Hid (∀ j u, w.cell? (ad.add j) = some u → wr.cell? (ad.add j) = some u) := hid (fun j u hu => (cell_same (w := w) (w' := wr) (by rw [D.add_block]; exact hb.out.block _ hbl)).trans hu)
        replace k0 := hmv.out _ _ k0
        replace k1 := hmv.out _ _ k1
        replace k2 := hmv.out _ _ k2
        replace k3 := hmv.out _ _ k3
        replace k4 := hmv.out _ _ k4
        obtain ⟨st, rf, hT, hA⟩ := hJ.out
        have hDo := hid (does.calls (fun q => q < B) d x st rf i wr v.k v.at_ v.n v.s v.A v.c v.ks hT hA (by omega) (fun q hq => Nat.lt_of_lt_of_le hq hl.out) hkb hnb (hrow.moved (fun q hq hn => hb.out.block q (Nat.lt_of_not_le hn)) (fun q hq hn h => hn (Nat.le_of_not_lt h))))
        have hLk := hid (fun (W : World) (st : St) (rf : Int) (hT : Two (fun q => q < B) W d x st (withF st rf)) (hA : D.Alike st rf (i + 1)) => like.calls (fun q => q < B) d x st rf W hT (by have := hA.len; omega))
        clear hJ hT hA hmv hrow hkb hnb hbl
        obtain ⟨dk, dat, ds, dn, dA, dks, dc⟩ := v
        dsimp only at k0 k1 k2 k3 k4 hDo
        rw [Nat.add_zero] at k0
        rw [add_field _ _ 1 (by omega)] at k1
        rw [add_field _ _ 2 (by omega)] at k2
        rw [add_field _ _ 3 (by omega)] at k3
        rw [add_field _ _ 4 (by omega)] at k4
        subst ea
        go_upto_region 13 with (first | ((with_reducible refine Calls.mono hDo.out ?_); rintro e w4 ⟨rfl, hJ4, hf4⟩; replace hJ4 := hid hJ4; replace hf4 := hid (hb.out.trans (below_of_fr hf4 hl.out))))
        obtain ⟨st4, rf4, hT4, hA4⟩ := hJ4.out
        have hLi := hid (hLk.out w4 st4 rf4 hT4 hA4)
        replace hT4 := hid hT4
        replace hA4 := hid hA4
        clear hJ4 hLk hDo k0 k1 k2 k3 k4
        have hl4 : Hid (B ≤ w4.heap.size) := hid (Nat.le_trans (Nat.le_of_eq hB.out) hf4.out.size)
        go_wp2_with (first | ((with_reducible refine Calls.mono hLi.out ?_); rintro e w5 ⟨rfl, hb5⟩; replace hb5 := hid hb5))
        go_roundg g
        case measure => omega
        case rel => exact ⟨i + 1, by first | rfl | simp, by omega, hid ⟨st4, rf4, hT4.out.below hb5.out, hA4.out⟩, hid (hf4.out.trans (hb5.out.mono hl4.out))⟩
theorem DiskPlays_walk (a0 : Int) (a1 : Option Addr) (len1 cap1 : Nat) (w : World) (w0 : (Lit.int .i64 a0).wf = true) (w1 : RowD w w.heap.size a1 len1) :
    Calls Try.prog 11 #[.int .i64 a0, .slice a1 len1 cap1] w fun e w' => e = .returned (.bool true) ∧ Below w.heap.size w w' := by
  by_cases h : 8 ≤ a0 ∧ a0 ≤ 640
  · exact plays_yes a0 a1 len1 cap1 w h w1
  · exact plays_no a0 a1 len1 cap1 w (by omega)
end Go.Proofs.Ytnffhdlkkfphbaa.Pure
