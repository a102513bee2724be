/- What is written to a sector is read there, and nowhere else. No condition. -/
import Derived.Test.YtnffhdlkkfphbaaDh
namespace Go.Proofs.Ytnffhdlkkfphbaa.Pure
set_option linter.unusedVariables false
set_option linter.unusedSimpArgs false
open Go.RowKit Go.Proofs.Ytnffhdlkkfphbaa.D Go.Proofs.YtnffhdlkkfphbaaW.PrintWords Go.Proofs.YtnffhdlkkfphbaaW.PrintLast Go.Proofs.YtnffhdlkkfphbaaW.PrintMore
open Go.Lib (hid)
theorem at_ (a : Int) (h : -9223372036854775808 ≤ a ∧ a ≤ 9223372036854775807) : ∃ m : Nat, (a < 0 → wrap64 (-wrap64 (a + 1)) = (m : Int)) ∧ (0 ≤ a → a = (m : Int)) := by
  by_cases hn : a < 0
  · exact ⟨(-(a + 1)).toNat, fun _ => by unfold wrap64; omega, fun h => absurd hn (by omega)⟩
  · exact ⟨a.toNat, fun h => absurd h hn, fun _ => by omega⟩
theorem kk (m i : Nat) (hi : i < 30) : ∃ k : Nat, (wrap64 ((m : Int) % 9 + wrap64 ((i : Int) * (i : Int)))).tmod 9 = (k : Int) ∧ k < 9 := by
  have h1 : i * i ≤ 29 * 29 := Nat.mul_le_mul (by omega) (by omega)
  have h2 : (i : Int) * (i : Int) = ((i * i : Nat) : Int) := by simp
  rw [h2]
  generalize i * i = q at *
  have h3 : wrap64 ((m : Int) % 9 + wrap64 (q : Int)) = ((m % 9 + q : Nat) : Int) := by unfold wrap64; omega
  rw [h3]
  exact ⟨(m % 9 + q) % 9, rfl, Nat.mod_lt _ (by decide)⟩
theorem all_zero (ws : List ByteArray) (Z : ByteArray) (n : Nat) (h : ws.length = n) (hz : ∀ j, j < n → ws.getD j ⟨#[]⟩ = Z) : ws = List.replicate n Z := by
  refine List.ext_getElem (by rw [h, List.length_replicate]) (fun i h1 h2 => ?_)
  have := hz i (by omega)
  rw [List.getD_eq_getElem?_getD, List.getElem?_eq_getElem h1, Option.getD_some] at this
  rw [this, List.getElem_replicate]
structure PO (i : Nat) (st : St) (ws : List ByteArray) : Prop where
  now : st.now = ws
  len : ws.length = 9
  fuse : st.fuse = -1
  gone : st.gone = false
  loose : st.loose.length ≤ i
theorem PO.write {i : Nat} {st : St} {ws : List ByteArray} (h : PO i st ws) (k : Nat) (hk : k < 9) (X : ByteArray) (hX : X.size = 256) : ∃ st', writes st (k : Int) X = (0, st') ∧ PO (i + 1) st' (ws.set k X) := by
  refine ⟨_, writes_ok st (k : Int) X h.gone (by omega) (by rw [h.now, h.len]; omega) hX (by rw [h.fuse]; decide), ?_⟩
  refine ⟨?_, by rw [List.length_set]; exact h.len, ?_, h.gone, ?_⟩
  · show st.now.set _ X = _
    rw [Int.toNat_natCast, h.now]
  · show max (-1) (st.fuse - 1) = -1
    rw [h.fuse]; decide
  · show (if _ then _ else _ : List (Int × ByteArray)).length ≤ i + 1
    have := h.loose
    split
    · omega
    · rw [List.length_append, List.length_singleton]; omega
set_option maxHeartbeats 8000000 in
set_option maxRecDepth 100000 in
theorem own_walk (A0 : Option Addr) (c0 : Nat) (ls : List ByteArray) (a1 : Int) (w : World) (hL : RowS w w.heap.size A0 ls) (h1 : -9223372036854775808 ≤ a1 ∧ a1 ≤ 9223372036854775807) : 
    Calls Try.prog 7 #[.slice A0 ls.length c0, .int .i64 a1] w fun e w' => e = .returned (.bool true) ∧ Below w.heap.size w w' := by
  obtain ⟨B, hB⟩ : ∃ B, B = w.heap.size := ⟨_, rfl⟩
  rw [← hB] at hL ⊢
  replace hB := hid hB
  replace hL := hid hL
  obtain ⟨m, hm0, hm1⟩ := at_ a1 h1
  replace hm0 := hid (And.intro hm0 hm1)
  clear hm1 h1
  have hF := hid (fun (a : ByteArray) (W : World) => fill.calls a W)
  have hA : Hid (∀ a, (fillB a).size = 256) := hid (fun a => (fill_some a).2)
  generalize fillB = f at *
  have hE := hid (fun W => examples.calls W)
  have hN : Hid (∀ W : World, B ≤ W.heap.size → Calls Try.prog 21 #[.int .i64 9] W fun e w' => ∃ d, e = .returned (.tuple #[.pointer (some ⟨d, 0, none⟩), .int .i64 0]) ∧ DiskOn B w' d { now := List.replicate 9 zeros, loose := [], fuse := -1, gone := false } ∧ Below W.heap.size W w') := hid (fun W hW => New.on B 9 (by omega) W hW)
  go_enter Try.func7, Try.ntmps7
  (try dsimp only [List.append])
  go_upto_region 4 with (first | ((with_reducible refine Calls.mono (hE.out _) ?_); rintro e w1 ⟨rfl, hb1⟩; replace hb1 := hid hb1))
  have hl1 : Hid (B ≤ w1.heap.size) := hid (Nat.le_trans (Nat.le_of_eq hB.out) hb1.out.size)
  go_upto_region 8 with (first | ((with_reducible refine Calls.mono (hN.out _ hl1.out) ?_); rintro e w2 ⟨d, rfl, hD2, hb2⟩; replace hD2 := hid hD2; replace hb2 := hid hb2))
  replace hb2 : Hid (Below B w w2) := hid (Below.trans (by rw [hB.out]; exact hb1.out) (hb2.out.mono hl1.out))
  clear hb1 hl1 hN hE
  have hl2 : Hid (B ≤ w2.heap.size) := hid (Nat.le_trans (Nat.le_of_eq hB.out) hb2.out.size)
  have HW : Hid (∃ ws : List ByteArray, ws.length = 9 ∧ StrsAt (w2.alloc (Obj.cells #[Value.string ⟨#[]⟩, Value.string ⟨#[]⟩, Value.string ⟨#[]⟩, Value.string ⟨#[]⟩, Value.string ⟨#[]⟩, Value.string ⟨#[]⟩, Value.string ⟨#[]⟩, Value.string ⟨#[]⟩, Value.string ⟨#[]⟩] 42)) w2.heap.size 42 ws) :=
    hid ⟨List.replicate 9 ⟨#[]⟩, rfl, Array.getElem?_push_size⟩
  have hbA := hid ((Below.refl w2.heap.size w2).alloc (Nat.le_refl _) (Obj.cells #[Value.string ⟨#[]⟩, Value.string ⟨#[]⟩, Value.string ⟨#[]⟩, Value.string ⟨#[]⟩, Value.string ⟨#[]⟩, Value.string ⟨#[]⟩, Value.string ⟨#[]⟩, Value.string ⟨#[]⟩, Value.string ⟨#[]⟩] 42))
  generalize (w2.alloc (Obj.cells #[Value.string ⟨#[]⟩, Value.string ⟨#[]⟩, Value.string ⟨#[]⟩, Value.string ⟨#[]⟩, Value.string ⟨#[]⟩, Value.string ⟨#[]⟩, Value.string ⟨#[]⟩, Value.string ⟨#[]⟩, Value.string ⟨#[]⟩] 42)) = wA at *
  obtain ⟨ws, hws, hwA⟩ := HW.out
  replace hD2 : Hid (DiskOff B (fun i => i = w2.heap.size) wA d { now := List.replicate 9 zeros, loose := [], fuse := -1, gone := false }) := hid (hD2.out.off.step (fun i hi _ _ => hbA.out.block i hi) hbA.out.size (fun i hi h => absurd h (by omega)))
  replace hb2 := hid (hb2.out.trans (hbA.out.mono hl2.out))
  have hBw := hid hl2.out
  generalize w2.heap.size = bw at *
  replace hwA : Hid (∃ ws : List ByteArray, ws.length = 9 ∧ (∀ j, j < 0 → ws.getD j ⟨#[]⟩ = zeros) ∧ StrsAt wA bw 42 ws) := hid ⟨ws, hws, fun j hj => absurd hj (Nat.not_lt_zero j), hwA⟩
  clear HW hws hbA ws
  obtain ⟨y2, hy2⟩ : ∃ y : List Int, y = List.replicate 256 0 := ⟨_, rfl⟩
  have hz2 : Hid (strOfNums y2 = zeros) := hid (by rw [hy2, zeros_nums])
  have Ny2 := Aside0.mk hy2
  clear hy2
  go_wp2_with fail
  go_loopg [9] 9 (fun g v8 wr => ∃ (i : Nat), v8 = .int .i64 (i : Int) ∧ i + g = 9 ∧ Hid (∃ ws : List ByteArray, ws.length = 9 ∧ (∀ j, j < i → ws.getD j ⟨#[]⟩ = zeros) ∧ StrsAt wr bw 42 ws) ∧ Hid (DiskOff B (fun i => i = bw) wr d { now := List.replicate 9 zeros, loose := [], fuse := -1, gone := false }) ∧ Hid (Below B w wr))
  case atStart => exact ⟨0, rfl, by omega, hwA, hD2, hb2⟩
  case round =>
    clear hwA hD2 hb2
    obtain ⟨i, rfl, hi, hS, hD, hb⟩ := hrel
    have hl : Hid (B ≤ wr.heap.size) := hid (Nat.le_trans (Nat.le_of_eq hB.out) hb.out.size)
    obtain ⟨ws, hws, hwz, hwA⟩ := hS.out
    replace hws := hid hws
    replace hwz := hid hwz
    replace hwA := hid hwA
    clear hS
    cases gk with
    | zero =>
      obtain rfl : i = 9 := by omega
      replace hwz : Hid (ws = List.replicate 9 zeros) := hid (all_zero ws zeros 9 hws.out hwz.out)
      have HP : Hid (∃ st ws, PO 0 st ws ∧ StrsAt wr bw 42 ws ∧ DiskOff B (fun i => i = bw) wr d st) := hid ⟨_, ws, ⟨hwz.out.symm, hws.out, rfl, rfl, Nat.le_refl _⟩, hwA.out, hD.out⟩
      clear hwz hws hwA hD hz2 Ny2 ws y2
      by_cases h0 : a1 < 0
      all_goals
        go_upto_region 14 with fail
        (first | rw [hm0.out.1 h0] | (have e := hm0.out.2 (by omega); subst e))
        clear hm0
        (try clear h0)
        obtain ⟨n, hn⟩ : ∃ n : Nat, n = min ls.length 30 := ⟨_, rfl⟩
        replace hn := hid hn
        go_wp2_with fail
        go_loopg [10] n (fun g v8 wr => ∃ (i : Nat), v8 = .int .i64 (i : Int) ∧ i + g = n ∧ Hid (∃ st ws, PO i st ws ∧ StrsAt wr bw 42 ws ∧ DiskOff B (fun i => i = bw) wr d st) ∧ Hid (Below B w wr))
        case atStart => exact ⟨0, by first | rfl | simp, by first | omega | simp, HP, hb⟩
        case round =>
          clear HP hb hl
          obtain ⟨i, rfl, hi, HP, hb⟩ := hrel
          have hl : Hid (B ≤ wr.heap.size) := hid (Nat.le_trans (Nat.le_of_eq hB.out) hb.out.size)
          obtain ⟨st, ws, hP, hwA, hD⟩ := HP.out
          replace hP := hid hP
          replace hwA := hid hwA
          replace hD := hid hD
          clear HP
          cases gk with
          | zero =>
            obtain rfl : i = n := by omega
            have hle : Hid (i ≤ 100) := hid (by have := hn.out; omega)
            have hor : Hid (¬ (i : Int) < (ls.length : Int) ∨ ((i : Int) < (ls.length : Int) ∧ ¬ (i : Int) < 30)) := hid (by have := hn.out; omega)
            clear hn hi
            rcases hor.out with hq | ⟨hq, hq2⟩
            all_goals
              clear hor
              go_wp2_with fail
              go_loopg [12] 9 (fun g v8 wr => ∃ (q : Nat), v8 = .int .i64 (q : Int) ∧ q + g = 9 ∧ Hid (StrsAt wr bw 42 ws) ∧ Hid (DiskOff B (fun i => i = bw) wr d st) ∧ Hid (Below B w wr))
              case atStart => exact ⟨0, by first | rfl | simp, by first | omega | simp, hwA, hD, hb⟩
              case round =>
                clear hwA hD hb hl
                obtain ⟨q, rfl, hqi, hwA, hD, hb⟩ := hrel
                have hl : Hid (B ≤ wr.heap.size) := hid (Nat.le_trans (Nat.le_of_eq hB.out) hb.out.size)
                cases gk with
                | zero =>
                  obtain rfl : q = 9 := by omega
                  have hRd : Hid (Calls Try.prog 24 #[.pointer (some ⟨d, 0, none⟩), .int .i64 9] wr fun e w' => e = .returned (.tuple #[.string ⟨#[]⟩, .int .i64 1]) ∧ wr = w') := hid (by
                    have h := Read.calls _ d st 9 wr hD.out
                    rw [show reads st 9 = (⟨#[]⟩, 1) by unfold reads; rw [hP.out.gone, if_neg (by decide), if_pos (.inr (by rw [hP.out.now, hP.out.len]; decide))]] at h
                    exact h)
                  have hW1 : Hid (∀ W s, Below wr.heap.size wr W → Calls Try.prog 23 #[.pointer (some ⟨d, 0, none⟩), .int .i64 (-1), .string s] W fun e w' => e = .returned (.int .i64 1) ∧ DiskOff B (fun i => i = bw) w' d st ∧ Below B W w') := hid (fun W s hW => by
                    have h := Write.off B (fun i => i = bw) d st (-1) s W (hD.out.below hW) (Nat.le_trans hl.out hW.size) (fun i hi => by rw [hi]; exact Nat.lt_of_lt_of_le (blk_lt hwA.out) hW.size) (by have := hP.out.loose; have := hle.out; omega)
                    rw [show writes st (-1) s = (1, st) by unfold writes; rw [hP.out.gone, if_neg (by decide), if_pos (.inl (by decide))]] at h
                    exact h.mono (fun e w' ⟨h1, h2, h3, _⟩ => ⟨h1, h2, h3⟩))
                  have hW2 : Hid (∀ W, DiskOff B (fun i => i = bw) W d st → B ≤ W.heap.size → bw < W.heap.size → Calls Try.prog 23 #[.pointer (some ⟨d, 0, none⟩), .int .i64 0, .string ⟨#[]⟩] W fun e w' => e = .returned (.int .i64 1) ∧ Below B W w') := hid (fun W hD hB hb => by
                    have h := Write.off B (fun i => i = bw) d st 0 ⟨#[]⟩ W hD hB (fun i hi => by rw [hi]; exact hb) (by have := hP.out.loose; have := hle.out; omega)
                    rw [show writes st 0 ⟨#[]⟩ = (1, st) by unfold writes; rw [hP.out.gone, if_neg (by decide), if_neg (by rw [hP.out.now, hP.out.len]; decide), if_pos (by decide)]] at h
                    exact h.mono (fun e w' ⟨h1, h2, h3, _⟩ => ⟨h1, h3⟩))
                  go_wp2_with (first | ((with_reducible refine Calls.mono hRd.out ?_); rintro e w3 ⟨rfl, rfl⟩) | ((with_reducible refine Calls.mono (hF.out _ _) ?_); rintro e w4 ⟨rfl, hb4⟩; replace hb4 := hid hb4) | ((with_reducible refine Calls.mono (hW1.out _ _ hb4.out) ?_); rintro e w5 ⟨rfl, hD5, hb5⟩; replace hD5 := hid hD5; have hs5 := hid (Nat.lt_of_lt_of_le (blk_lt hwA.out) (Nat.le_trans hb4.out.size hb5.size)); replace hb5 := hid ((hb.out.trans (hb4.out.mono hl.out)).trans hb5)) | ((with_reducible refine Calls.mono (hW2.out _ hD5.out (Nat.le_trans (Nat.le_of_eq hB.out) hb5.out.size) hs5.out) ?_); rintro e w6 ⟨rfl, hb6⟩; replace hb6 := hid (hb5.out.trans hb6)))
                  go_ret
                  exact ⟨rfl, hb6.out⟩
                | succ g =>
                  have hlt : (q : Int) < 9 := by omega
                  have hc := hwA.out.cell q (by rw [hP.out.len]; omega)
                  have hRd := hid (Read.off B _ d st q (by rw [hP.out.now, hP.out.len]; omega) hP.out.gone wr hD.out)
                  rw [hP.out.now] at hRd
                  generalize ws.getD q ⟨#[]⟩ = x at *
                  go_wp2_with (first | ((with_reducible refine Calls.mono hRd.out ?_); rintro e w3 ⟨rfl, rfl⟩))
                  go_roundg g
                  case measure => omega
                  case rel => exact ⟨q + 1, by first | rfl | simp, by omega, hwA, hD, hb⟩
          | succ g =>
            have hi30 : (i : Int) < 30 := by have := hn.out; omega
            have hil : (i : Int) < (ls.length : Int) := by have := hn.out; omega
            obtain ⟨ad, ea, hbl, hc⟩ := hL.out i (by omega)
            subst ea
            replace hc := (cell_same (w := w) (w' := wr) (by rw [D.add_block]; exact hb.out.block _ hbl)).trans hc
            generalize ls.getD i ⟨#[]⟩ = x at *
            obtain ⟨k, hk, hk9⟩ := kk m i (by omega)
            replace hk := hid hk
            obtain ⟨st', hW', hP'⟩ := hP.out.write k hk9 (f x) (hA.out x)
            replace hP' := hid hP'
            have hk91 : (k : Int) < 9 := by omega
            go_upto_region 18 with fail
            rw [hk.out]
            clear hk
            go_upto_region 19 with (first | ((with_reducible refine Calls.mono (hF.out _ _) ?_); rintro e w4 ⟨rfl, hb4⟩; have hw4 := hid (hwA.out.kept (hb4.block _ (blk_lt hwA.out))); have hc4 := hw4.out.cell k (by rw [hP.out.len]; omega); have hf4 := blk_frozen hw4.out k; replace hb4 := hid hb4; generalize ws.getD k ⟨#[]⟩ = old at hc4))
            replace hD := hid (hD.out.below hb4.out)
            have h5 := hid (hw4.out.set k (f x))
            have hD5 : Hid (DiskOff B (fun i => i = bw) (w4.setCell ⟨bw, k, none⟩ (.string (f x))) d st) := hid (hD.out.step (fun q hq _ hg => Below.heap_setCell w4 ⟨bw, k, none⟩ _ q hg) (by simp) (fun _ _ h => h))
            have hb5 : Hid (Below B w (w4.setCell ⟨bw, k, none⟩ (.string (f x)))) := hid ((hb.out.trans (hb4.out.mono hl.out)).setCell (p := ⟨bw, k, none⟩) hBw.out _)
            generalize w4.setCell ⟨bw, k, none⟩ (.string (f x)) = w5 at *
            have hc5 := h5.out.cell k (by rw [List.length_set, hP.out.len]; omega)
            rw [getD_set_ _ _ _ _ _ (by rw [hP.out.len]; omega), if_pos rfl] at hc5
            have hl5 : Hid (B ≤ w5.heap.size) := hid (Nat.le_trans (Nat.le_of_eq hB.out) hb5.out.size)
            have hWr := hid (Write.off B (fun i => i = bw) d st (k : Int) (f x) w5 hD5.out hl5.out (fun i hi => by rw [hi]; exact blk_lt h5.out) (by have := hP.out.loose; omega))
            rw [hW'] at hWr
            clear hW' hc4 hf4 hwA hw4 hc
            go_wp2_with (first | ((with_reducible refine Calls.mono hWr.out ?_); rintro e w6 ⟨rfl, hD6, hb6, hg6⟩; replace hD6 := hid hD6; replace hb6 := hid hb6; replace hg6 := hid hg6))
            go_roundg g
            case measure => omega
            case rel => exact ⟨i + 1, by first | rfl | simp, by omega, hid ⟨st', _, hP'.out, h5.out.kept (hg6.out bw rfl), hD6.out⟩, hid (hb5.out.trans hb6.out)⟩
    | succ g =>
      have hlt : (i : Int) < 9 := by omega
      go_wp2_with (first | ((with_reducible refine gate_dst (N := 35) rfl ?_); refine Kd.R_make (Kd.int .u8) _ 5 rfl (N := 35) rfl 35 _ _ rfl 256 rfl rfl Try.underlying35 (.int .u8 0) 1 F.info5 rfl (by decide) (by omega) 0 (ok := fun _ => True) (okp := fun _ => True) rfl (fun _ hk => hk) trivial (by omega) (by omega) (Below.refl _ _) (Nat.le_refl _) ?_; intro v1 w3 ho hbm hg_ hnew_; clear hg_ hnew_; simp only [Int.reduceToNat] at ho; rw [← Ny2.out] at ho; have hcv1 := own_string (P := Try.prog) Try.underlying35 Try.underlying5 Try.underlying9 (Kd.own_of_R ho); clear ho; have hw3 := hid (hwA.out.kept (hbm.block _ (blk_lt hwA.out))); have hc3 := hw3.out.cell i (by rw [hws.out]; omega); have hf3 := blk_frozen hw3.out i; replace hbm := hid hbm; generalize ws.getD i ⟨#[]⟩ = old at hc3))
      go_roundg g
      case measure => omega
      case rel =>
        have hbw := blk_lt hwA.out
        exact ⟨i + 1, by first | rfl | simp, by omega, hid ⟨ws.set i (strOfNums y2), by rw [List.length_set]; exact hws.out, fun j hj => by
          rw [getD_set_ _ _ _ _ _ (by rw [hws.out]; omega)]
          split
          · exact hz2.out
          · exact hwz.out j (by omega), hw3.out.set i _⟩, hid ((hD.out.below hbm.out).step (fun k hk _ hg => Below.heap_setCell w3 ⟨bw, i, none⟩ _ k hg) (by simp) (fun _ _ h => h)), hid ((hb.out.trans (hbm.out.mono hl.out)).setCell (p := ⟨bw, i, none⟩) hBw.out _)⟩
theorem DiskOwn_walk (a0 : Option Addr) (len0 cap0 : Nat) (z0 : List ByteArray) (a1 : Int) (w : World) (w0 : IsStrs w a0 len0 cap0 z0) (w1 : (Lit.int .i64 a1).wf = true) :
    Calls Try.prog 7 #[.slice a0 len0 cap0, .int .i64 a1] w fun e w' => e = .returned (.bool true) ∧ Below w.heap.size w w' := by
  obtain ⟨h1, h2, _⟩ := w0.row
  have h := own_walk a0 cap0 (z0.take len0) a1 w h2 (bounds_i64 w1)
  rw [h1] at h
  exact h
end Go.Proofs.Ytnffhdlkkfphbaa.Pure
