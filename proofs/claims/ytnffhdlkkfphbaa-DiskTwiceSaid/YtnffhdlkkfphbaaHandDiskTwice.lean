/- A crash with nothing loose changes nothing; two behind one another are one; sectors become loose in the order in which they were written first. No condition. -/
import Derived.Test.YtnffhdlkkfphbaaDi
import Derived.Test.YtnffhdlkkfphbaaDj
namespace Go.Proofs.Ytnffhdlkkfphbaa.Pure
set_option linter.unusedVariables false
set_option linter.unusedSimpArgs false
open Go.RowKit Go.Proofs.Ytnffhdlkkfphbaa.D Go.Proofs.YtnffhdlkkfphbaaW.PrintWords Go.Proofs.YtnffhdlkkfphbaaW.PrintLast Go.Proofs.YtnffhdlkkfphbaaW.PrintMore
open Go.Lib (hid)
def IsRow (k : IntKind) (w : World) (a : Option Addr) (len cap : Nat) (zs : List Int) : Prop :=
  (a = none ∧ len = 0 ∧ cap = 0 ∧ zs = []) ∨
  ∃ x, a = some x ∧ len ≤ cap ∧ cap ≤ maxLen ∧ zs.length = cap ∧ (∀ i, i < zs.length → w.cell? (x.add i) = some (.int k (zs.getD i 0))) ∧ ∀ n ∈ zs, (Lit.int k n).wf = true
theorem IsRow.row {w : World} {a : Option Addr} {len cap : Nat} {zs : List Int} (h : IsRow .i64 w a len cap zs) : (zs.take len).length = len ∧ RowA w (fun i => w.heap.size ≤ i) a (zs.take len) := by
  rcases h with ⟨rfl, rfl, rfl, rfl⟩ | ⟨x, rfl, h1, h2, h3, h4, h5⟩
  · exact ⟨rfl, RowA.nil _ _ _⟩
  · have hl : (zs.take len).length = len := by rw [List.length_take]; omega
    refine ⟨hl, fun i hi => ?_⟩
    rw [hl] at hi
    have hc := h4 i (by omega)
    have hlt := cell_lt hc
    rw [D.add_block] at hlt
    refine ⟨x, rfl, by omega, ?_⟩
    rw [hc]
    simp [List.getD_eq_getElem?_getD, hi]
/-- The disk lies beside the caller's array and row. -/
abbrev GT (bm : Nat) (ov : Value) : Nat → Prop := fun i => i = bm ∨ ov.ownBlock = some i
structure IT (B bm d : Nat) (wr : World) (i : Nat) (st : St) (mt : List Bool) (ord : List Int) (ov : Value) : Prop where
  p : PT i st mt ord
  m : BoolsAt wr bm 52 mt
  o : Kd.R (Kd.int .i64) 3 wr B (fun k => k ≠ bm) ov ord
  d : DiskOff B (GT bm ov) wr d st
theorem IT.lt {B bm d : Nat} {wr : World} {i : Nat} {st : St} {mt : List Bool} {ord : List Int} {ov : Value} (h : IT B bm d wr i st mt ord ov) : ∀ q, GT bm ov q → q < wr.heap.size := by
  rintro q (rfl | hq)
  · exact blk_lt h.m
  · exact Kd.R_lt h.o q hq
theorem IT.below {B bm d : Nat} {wr w' : World} {i : Nat} {st : St} {mt : List Bool} {ord : List Int} {ov : Value} (h : IT B bm d wr i st mt ord ov) (hb : Below wr.heap.size wr w') : IT B bm d w' i st mt ord ov :=
  ⟨h.p, h.m.kept (hb.block _ (blk_lt h.m)), Kd.R_below h.o hb, h.d.below hb⟩
theorem IT.o_step {B bm : Nat} {wr w' : World} {ord : List Int} {ov : Value} (h : Kd.R (Kd.int .i64) 3 wr B (fun k => k ≠ bm) ov ord) (hg : ∀ q, GT bm ov q → w'.heap[q]? = wr.heap[q]?) : Kd.R (Kd.int .i64) 3 w' B (fun k => k ≠ bm) ov ord := by
  have h2 : Kd.R (Kd.int .i64) 3 wr B (fun k => k ≠ bm ∧ ov.ownBlock = some k) ov ord := ⟨fun k hk => ⟨h.1 k hk, hk⟩, h.2⟩
  exact Kd.R_mono (Kd.R_step h2 (fun k hk _ => hg k (.inr hk.2))) (fun _ hk => hk.1)
theorem rep_getD {α : Type} (n : Nat) (a d : α) (k : Nat) : (List.replicate n a).getD k d = if k < n then a else d := by
  simp only [List.getD_eq_getElem?_getD, List.getElem?_replicate]
  split <;> rfl
theorem key10 (i : Nat) (n : Nat) (hi : i < 20) (hn : n ≤ 281474976710656) : ∃ k : Nat, ((3 * (i : Int) + (n : Int)) % 10) = (k : Int) ∧ k < 10 := ⟨(3 * i + n) % 10, by omega, Nat.mod_lt _ (by decide)⟩
theorem IT.mark {B bm d : Nat} {w : World} {i k : Nat} {st : St} {mt : List Bool} {ord : List Int} {ov : Value} (hp : PT i st (mt.set k true) ord) (hm : BoolsAt w bm 52 mt) (ho : Kd.R (Kd.int .i64) 3 w B (fun k => k ≠ bm) ov ord) (hd : DiskOff B (GT bm ov) w d st) :
    IT B bm d (w.setCell ⟨bm, k, none⟩ (.bool true)) i st (mt.set k true) ord ov :=
  ⟨hp, hm.set k true, Kd.R_set ho hm (by decide) k _, hd.step (fun q hq _ hg => Below.heap_setCell w ⟨bm, k, none⟩ _ q (fun e => hg (.inl e))) (by simp) (fun _ _ h => h)⟩
theorem IT.grown {B bm d : Nat} {w w6 : World} {st : St} {mt : List Bool} {ord ord' : List Int} {ov v1 : Value} (hm : BoolsAt w bm 52 mt) (ho : Kd.R (Kd.int .i64) 3 w B (fun k => k ≠ bm) ov ord) (hd : DiskOff B (GT bm ov) w d st)
    (hR : Kd.R (Kd.int .i64) 3 w6 B (fun k => k ≠ bm) v1 ord') (hs : w.heap.size ≤ w6.heap.size) (hg : w.grownBy w6 ov.ownBlock) (hat : v1.ownBlock = ov.ownBlock ∨ ∃ b, v1.ownBlock = some b ∧ w.heap.size ≤ b) :
    BoolsAt w6 bm 52 mt ∧ Kd.R (Kd.int .i64) 3 w6 B (fun k => k ≠ bm) v1 ord' ∧ DiskOff B (GT bm v1) w6 d st := by
  refine ⟨hm.kept (hg.block bm (blk_lt hm) (fun e => ho.1 bm e.symm rfl)), hR, hd.step (fun q hq _ hn => hg.block q hq (fun e => hn (.inr e.symm))) hs (fun q hq h => ?_)⟩
  rcases h with h | h
  · exact .inl h
  · rcases hat with e | ⟨b, e, hb⟩
    · exact .inr (e ▸ h)
    · rw [e] at h
      injection h with h
      omega
set_option maxHeartbeats 2000000 in
set_option maxRecDepth 100000 in
theorem twice_walk (A0 : Option Addr) (c0 : Nat) (ls : List ByteArray) (A1 : Option Addr) (c1 : Nat) (ks : List Int) (A2 : Option Addr) (c2 : Nat) (ms : List Int) (w : World) (hL : RowS w w.heap.size A0 ls) (hls : ∀ s ∈ ls, s.size ≤ 140737488351232)
    (hK : RowA w (fun i => w.heap.size ≤ i) A1 ks) (hM : RowA w (fun i => w.heap.size ≤ i) A2 ms) : 
    Calls Try.prog 9 #[.slice A0 ls.length c0, .slice A1 ks.length c1, .slice A2 ms.length c2] w fun e w' => e = .returned (.bool true) ∧ Below w.heap.size w w' := by
  obtain ⟨B, hB⟩ : ∃ B, B = w.heap.size := ⟨_, rfl⟩
  rw [← hB] at hL hK hM ⊢
  replace hB := hid hB
  replace hL := hid hL
  replace hK := hid hK
  replace hM := hid hM
  replace hls := hid hls
  have hE := hid (fun W => examples.calls W)
  have hN : Hid (∀ W : World, B ≤ W.heap.size → Calls Try.prog 21 #[.int .i64 10] W fun e w' => ∃ d, e = .returned (.tuple #[.pointer (some ⟨d, 0, none⟩), .int .i64 0]) ∧ DiskOn B w' d { now := List.replicate 10 zeros, loose := [], fuse := -1, gone := false } ∧ Below W.heap.size W w') := hid (fun W hW => New.on B 10 (by omega) W hW)
  have hF := hid (fun (a : ByteArray) (W : World) => fill.calls a W)
  have hA : Hid (∀ a, (fillB a).size = 256) := hid (fun a => (fill_some a).2)
  generalize fillB = f at *
  go_enter Try.func9, Try.ntmps9
  (try dsimp only [List.append])
  go_upto_region 4 with (first | ((with_reducible refine Calls.mono (hE.out _) ?_); rintro e w1 ⟨rfl, hb1⟩; replace hb1 := hid hb1))
  have hl1 : Hid (B ≤ w1.heap.size) := hid (Nat.le_trans (Nat.le_of_eq hB.out) hb1.out.size)
  go_upto_region 9 with (first | ((with_reducible refine Calls.mono (hN.out _ hl1.out) ?_); rintro e w2 ⟨d, rfl, hD2, hb2⟩; replace hD2 := hid hD2; replace hb2 := hid hb2))
  replace hb2 : Hid (Below B w w2) := hid (Below.trans (by rw [hB.out]; exact hb1.out) (hb2.out.mono hl1.out))
  clear hb1 hl1 hN hE
  have hl2 : Hid (B ≤ w2.heap.size) := hid (Nat.le_trans (Nat.le_of_eq hB.out) hb2.out.size)
  have HW : Hid (BoolsAt (w2.alloc (Obj.cells #[Value.bool false, Value.bool false, Value.bool false, Value.bool false, Value.bool false, Value.bool false, Value.bool false, Value.bool false, Value.bool false, Value.bool false] 52)) w2.heap.size 52 (List.replicate 10 false)) := hid Array.getElem?_push_size
  have hbA := hid ((Below.refl w2.heap.size w2).alloc (Nat.le_refl _) (Obj.cells #[Value.bool false, Value.bool false, Value.bool false, Value.bool false, Value.bool false, Value.bool false, Value.bool false, Value.bool false, Value.bool false, Value.bool false] 52))
  generalize (w2.alloc (Obj.cells #[Value.bool false, Value.bool false, Value.bool false, Value.bool false, Value.bool false, Value.bool false, Value.bool false, Value.bool false, Value.bool false, Value.bool false] 52)) = wA at *
  replace hD2 : Hid (DiskOff B (GT w2.heap.size (.slice none 0 0)) wA d { now := List.replicate 10 zeros, loose := [], fuse := -1, gone := false }) := hid (hD2.out.off.step (fun i hi _ _ => hbA.out.block i hi) hbA.out.size (fun i hi h => by rcases h with h | h; exact absurd h (by omega); cases h))
  replace hb2 := hid (hb2.out.trans (hbA.out.mono hl2.out))
  have hBm := hid hl2.out
  generalize w2.heap.size = bm at *
  replace hD2 : Hid (∃ st mt ord, IT B bm d wA 0 st mt ord (.slice none 0 0)) := hid ⟨_, List.replicate 10 false, [], ⟨⟨List.length_replicate, rfl, rfl, Nat.le_refl _, rfl, rfl, fun k hk => by rw [rep_getD, ite_self]; rfl, fun k hk _ => by rw [rep_getD, if_pos hk], fun p hp => absurd hp List.not_mem_nil⟩, HW.out, Kd.R_nil _ _ _ _ _, hD2.out⟩⟩
  clear HW hbA hl2
  obtain ⟨y2, hy2⟩ : ∃ y : List Int, y = List.replicate 256 0 := ⟨_, rfl⟩
  have hz2 : Hid (strOfNums y2 = zeros) := hid (by rw [hy2, zeros_nums])
  have Ny2 := Aside0.mk hy2
  clear hy2
  obtain ⟨n, hn⟩ : ∃ n : Nat, n = min ls.length 20 := ⟨_, rfl⟩
  replace hn := hid hn
  go_wp2_with fail
  go_loopg [10, 12] n (fun g v10 v12 wr => ∃ (i : Nat), v12 = .int .i64 (i : Int) ∧ i + g = n ∧ Hid (∃ st mt ord, IT B bm d wr i st mt ord v10) ∧ Hid (Below B w wr))
  case atStart => exact ⟨0, by first | rfl | simp, by first | omega | simp, hD2, hb2⟩
  case round =>
    clear hD2 hb2
    obtain ⟨i, rfl, hi, HP, hb⟩ := hrel
    have hl : Hid (B ≤ wr.heap.size) := hid (Nat.le_trans (Nat.le_of_eq hB.out) hb.out.size)
    obtain ⟨st, mt, ord, hI⟩ := HP.out
    replace hI := hid hI
    clear HP
    cases gk with
    | zero =>
      obtain rfl : i = n := by omega
      have hor : Hid (¬ (i : Int) < (ls.length : Int) ∨ ((i : Int) < (ls.length : Int) ∧ ¬ (i : Int) < 20)) := hid (by have := hn.out; omega)
      have hi20 : Hid (i ≤ 20) := hid (by have := hn.out; omega)
      clear hn hi
      have hLo : Hid (Calls Try.prog 30 #[.pointer (some ⟨d, 0, none⟩)] wr fun e w' => ∃ v, e = .returned v ∧ Kd.R (Kd.int .i64) 3 w' wr.heap.size (fun _ => True) v ord ∧ Below wr.heap.size wr w') := hid (by
        have h := Loose.calls _ d st wr hI.out.d (by have := hI.out.p.loose; have := hi20.out; omega)
        rw [hI.out.p.keys] at h
        exact h)
      have hol : Hid (ord.length ≤ 100000) := hid (by have h1 := hI.out.p.loose; have h2 := congrArg List.length hI.out.p.keys; have := hi20.out; rw [List.length_map] at h2; omega)
      have hNu : Hid (∀ W v, Below wr.heap.size wr W → Kd.R (Kd.int .i64) 3 W wr.heap.size (fun _ => True) v ord → Calls Try.prog 29 #[v, u10] W fun e w' => e = .returned (.bool true) ∧ Below wr.heap.size wr w') := hid (fun W v hW hR => by
        refine (numbers.same v u10 ord hol.out 3 3 _ _ _ _ W hR (Kd.R_below hI.out.o hW)).mono ?_
        rintro e w' ⟨rfl, nd, rfl⟩
        exact ⟨rfl, pw_below_drewN hW nd⟩)
      have hCr : Hid (∀ W, Below wr.heap.size wr W → Calls Try.prog 28 #[.pointer (some ⟨d, 0, none⟩), .slice A1 ks.length c1] W fun e w' => e = .returned (.tuple #[]) ∧ (∃ now, (now.length = 10 ∧ ∀ k, k < 10 → mt.getD k false = false → now.getD k ⟨#[]⟩ = zeros) ∧ BoolsAt w' bm 52 mt ∧ DiskOff B (fun q => q = bm) w' d { now := now, loose := [], fuse := -1, gone := false }) ∧ Below B W w') := hid (fun W hW => by
        have hbW := hb.out.trans (hW.mono hl.out)
        refine (Crash.off B (fun q => q = bm) d st A1 c1 ks W ((hI.out.d.below hW).step (fun _ _ _ _ => rfl) (Nat.le_refl _) (fun q _ h => .inl h)) (Nat.le_trans hl.out hW.size) (fun q hq => by rw [hq]; exact Nat.lt_of_lt_of_le (blk_lt hI.out.m) hW.size) (hK.out.moved (fun i hi hF => hbW.block i (Nat.lt_of_not_le hF)) (fun _ _ h => h)) (by have := hI.out.p.loose; have := hi20.out; omega)).mono ?_
        rintro e w' ⟨rfl, hD, hb, hg⟩
        exact ⟨rfl, ⟨_, ⟨by rw [crash_len]; exact hI.out.p.len, fun k hk hm => hI.out.p.crash ks k hk hm⟩, (hI.out.m.kept (hW.block _ (blk_lt hI.out.m))).kept (hg bm rfl), hD⟩, hb⟩)
      have hmt := hid hI.out.p.mlen
      clear hI hi20
      rcases hor.out with hq | ⟨hq, hq2⟩
      all_goals
        clear hor
        go_upto_region 20 with (first | ((with_reducible refine Calls.mono hLo.out ?_); rintro e w4 ⟨lv, rfl, hR4, hb4⟩; replace hR4 := hid hR4; replace hb4 := hid hb4) | ((with_reducible refine Calls.mono (hNu.out _ _ hb4.out hR4.out) ?_); rintro e w5 ⟨rfl, hb5⟩; replace hb5 := hid hb5) | ((with_reducible refine Calls.mono (hCr.out _ hb5.out) ?_); rintro e w6 ⟨rfl, hq6, hb6⟩; replace hq6 := hid hq6; replace hb6 := hid ((hb.out.trans (hb5.out.mono hl.out)).trans hb6)))
        obtain ⟨now, hnow, hm6, hD6⟩ := hq6.out
        replace hnow := hid hnow
        replace hm6 := hid hm6
        replace hD6 := hid hD6
        clear hq6 hLo hNu hCr hb4 hb5 hR4 hb hl
        have hl6 : Hid (B ≤ w6.heap.size) := hid (Nat.le_trans (Nat.le_of_eq hB.out) hb6.out.size)
        go_upto_region 21 with fail
        have HW : Hid (∃ ws : List ByteArray, ws.length = 10 ∧ StrsAt (w6.alloc (Obj.cells #[Value.string ⟨#[]⟩, Value.string ⟨#[]⟩, Value.string ⟨#[]⟩, Value.string ⟨#[]⟩, Value.string ⟨#[]⟩, Value.string ⟨#[]⟩, Value.string ⟨#[]⟩, Value.string ⟨#[]⟩, Value.string ⟨#[]⟩, Value.string ⟨#[]⟩] 55)) w6.heap.size 55 ws) := hid ⟨List.replicate 10 ⟨#[]⟩, rfl, Array.getElem?_push_size⟩
        have hbA := hid ((Below.refl w6.heap.size w6).alloc (Nat.le_refl _) (Obj.cells #[Value.string ⟨#[]⟩, Value.string ⟨#[]⟩, Value.string ⟨#[]⟩, Value.string ⟨#[]⟩, Value.string ⟨#[]⟩, Value.string ⟨#[]⟩, Value.string ⟨#[]⟩, Value.string ⟨#[]⟩, Value.string ⟨#[]⟩, Value.string ⟨#[]⟩] 55))
        generalize (w6.alloc (Obj.cells #[Value.string ⟨#[]⟩, Value.string ⟨#[]⟩, Value.string ⟨#[]⟩, Value.string ⟨#[]⟩, Value.string ⟨#[]⟩, Value.string ⟨#[]⟩, Value.string ⟨#[]⟩, Value.string ⟨#[]⟩, Value.string ⟨#[]⟩, Value.string ⟨#[]⟩] 55)) = wB at *
        obtain ⟨ws0, hws0, hwB⟩ := HW.out
        have HS : Hid (∃ ws : List ByteArray, ws.length = 10 ∧ (∀ j, j < 0 → ws.getD j ⟨#[]⟩ = now.getD j ⟨#[]⟩) ∧ StrsAt wB w6.heap.size 55 ws) := hid ⟨ws0, hws0, fun j hj => absurd hj (Nat.not_lt_zero j), hwB⟩
        have hD7 : Hid (DiskOff B (fun q => q = bm ∨ q = w6.heap.size) wB d { now := now, loose := [], fuse := -1, gone := false }) := hid (hD6.out.step (fun q hq _ _ => hbA.out.block q hq) hbA.out.size (fun q hq h => by rcases h with h | h; exact h; omega))
        have hm7 := hid (hm6.out.kept (hbA.out.block _ (blk_lt hm6.out)))
        have hb7 := hid (hb6.out.trans (hbA.out.mono hl6.out))
        have hBs := hid hl6.out
        have hne : Hid (bm ≠ w6.heap.size) := hid (by have := blk_lt hm6.out; omega)
        clear HW hws0 hwB ws0 hbA hD6 hm6 hb6 hl6
        generalize w6.heap.size = bs at *
        go_wp2_with fail
        go_loopg [16] 10 (fun g v16 wr => ∃ (i : Nat), v16 = .int .i64 (i : Int) ∧ i + g = 10 ∧ Hid (∃ ws : List ByteArray, ws.length = 10 ∧ (∀ j, j < i → ws.getD j ⟨#[]⟩ = now.getD j ⟨#[]⟩) ∧ StrsAt wr bs 55 ws) ∧ Hid (DiskOff B (fun q => q = bm ∨ q = bs) wr d { now := now, loose := [], fuse := -1, gone := false }) ∧ Hid (BoolsAt wr bm 52 mt) ∧ Hid (Below B w wr))
        case atStart => exact ⟨0, by first | rfl | simp, by first | omega | simp, HS, hD7, hm7, hb7⟩
        case round =>
          clear HS hD7 hm7 hb7
          obtain ⟨j, rfl, hj, HS, hD, hM7, hb⟩ := hrel
          have hl : Hid (B ≤ wr.heap.size) := hid (Nat.le_trans (Nat.le_of_eq hB.out) hb.out.size)
          obtain ⟨ws, hws, hwz, hwA⟩ := HS.out
          replace hws := hid hws
          replace hwz := hid hwz
          replace hwA := hid hwA
          clear HS
          cases gk with
          | zero =>
            obtain rfl : j = 10 := by omega
            have hCr : Hid (Calls Try.prog 28 #[.pointer (some ⟨d, 0, none⟩), .slice A2 ms.length c2] wr fun e w' => e = .returned (.tuple #[]) ∧ (BoolsAt w' bm 52 mt ∧ StrsAt w' bs 55 ws ∧ DiskOff B (fun q => q = bm ∨ q = bs) w' d { now := now, loose := [], fuse := -1, gone := false }) ∧ Below B wr w') := hid (by
              refine (Crash.off B (fun q => q = bm ∨ q = bs) d _ A2 c2 ms wr hD.out hl.out (fun q hq => by rcases hq with rfl | rfl; exact blk_lt hM7.out; exact blk_lt hwA.out) (hM.out.moved (fun i hi hF => hb.out.block i (Nat.lt_of_not_le hF)) (fun _ _ h => h)) (Nat.zero_le _)).mono ?_
              rintro e w' ⟨rfl, hD, hb, hg⟩
              exact ⟨rfl, ⟨hM7.out.kept (hg bm (.inl rfl)), hwA.out.kept (hg bs (.inr rfl)), hD⟩, hb⟩)
            go_upto_region 26 with (first | ((with_reducible refine Calls.mono hCr.out ?_); rintro e w4 ⟨rfl, hq4, hb4⟩; replace hq4 := hid hq4; replace hb4 := hid (hb.out.trans hb4)))
            clear hCr hb hl hD hM7 hwA
            go_wp2_with fail
            go_loopg [17] 10 (fun g v17 wr => ∃ (q : Nat), v17 = .int .i64 (q : Int) ∧ q + g = 10 ∧ Hid (BoolsAt wr bm 52 mt ∧ StrsAt wr bs 55 ws ∧ DiskOff B (fun q => q = bm ∨ q = bs) wr d { now := now, loose := [], fuse := -1, gone := false }) ∧ Hid (Below B w wr))
            case atStart => exact ⟨0, by first | rfl | simp, by first | omega | simp, hq4, hb4⟩
            case round =>
              clear hq4 hb4
              obtain ⟨q, rfl, hqi, hq4, hb⟩ := hrel
              have hl : Hid (B ≤ wr.heap.size) := hid (Nat.le_trans (Nat.le_of_eq hB.out) hb.out.size)
              cases gk with
              | zero =>
                obtain rfl : q = 10 := by omega
                have hLo : Hid (Calls Try.prog 30 #[.pointer (some ⟨d, 0, none⟩)] wr fun e w' => ∃ A c, e = .returned (.slice A 0 c) ∧ Below wr.heap.size wr w') := hid (by
                  refine (Loose.calls _ d _ wr hq4.out.2.2 (Nat.zero_le _)).mono ?_
                  rintro e w' ⟨v, rfl, hR, hb⟩
                  obtain ⟨A, c, rfl⟩ := Kd.R_slice hR
                  exact ⟨A, c, rfl, hb⟩)
                go_wp2_with (first | ((with_reducible refine Calls.mono hLo.out ?_); rintro e w4 ⟨mA, mc, rfl, hb4⟩; replace hb4 := hid hb4))
                go_ret
                exact ⟨rfl, hb.out.trans (hb4.out.mono hl.out)⟩
              | succ g =>
                have hlt : (q : Int) < 10 := by omega
                have hcs := hq4.out.2.1.cell q (by rw [hws.out]; omega)
                have hcm := hq4.out.1.cell q (by rw [hmt.out]; omega)
                have hRd := hid (Read.off B _ d _ q (by rw [hnow.out.1]; omega) rfl wr hq4.out.2.2)
                rw [hwz.out q (by omega)] at hcs
                have hz := hid (hnow.out.2 q (by omega))
                generalize now.getD q ⟨#[]⟩ = x at *
                cases hm : mt.getD q false with
                | true =>
                  rw [hm] at hcm
                  go_wp2_with (first | ((with_reducible refine Calls.mono hRd.out ?_); rintro e w3 ⟨rfl, rfl⟩))
                  go_roundg g
                  case measure => omega
                  case rel => exact ⟨q + 1, by first | rfl | simp, by omega, hq4, hb⟩
                | false =>
                  rw [hm] at hcm
                  obtain rfl : x = strOfNums y2 := (hz.out hm).trans hz2.out.symm
                  go_wp2_with (first | ((with_reducible refine Calls.mono hRd.out ?_); rintro e w3 ⟨rfl, rfl⟩) | ((with_reducible refine gate_dst (N := 119) rfl ?_); (try (refine gate_guard (by rfl) ?_; dsimp only)); refine Kd.R_make (Kd.int .u8) _ 5 rfl (N := 119) rfl 35 _ _ rfl 256 rfl rfl Try.underlying35 (.int .u8 0) 1 F.info5 rfl (by decide) (by omega) 0 (ok := fun _ => True) (okp := fun _ => True) rfl (fun _ hk => hk) trivial (by omega) (by omega) (Below.refl _ _) (Nat.le_refl _) ?_; intro v2 w8 ho hb8 hg_ hnew_; clear hg_ hnew_; simp only [Int.reduceToNat] at ho; rw [← Ny2.out] at ho; have hcv1 := own_string (P := Try.prog) Try.underlying35 Try.underlying5 Try.underlying9 (Kd.own_of_R ho); clear ho; replace hb8 := hid hb8))
                  go_roundg g
                  case measure => omega
                  case rel => exact ⟨q + 1, by first | rfl | simp, by omega, hid ⟨hq4.out.1.kept (hb8.out.block _ (blk_lt hq4.out.1)), hq4.out.2.1.kept (hb8.out.block _ (blk_lt hq4.out.2.1)), hq4.out.2.2.below hb8.out⟩, hid (hb.out.trans (hb8.out.mono hl.out))⟩
          | succ g =>
            have hlt : (j : Int) < 10 := by omega
            have hcs := hwA.out.cell j (by rw [hws.out]; omega)
            have hfs := blk_frozen hwA.out j
            have hRd := hid (Read.off B _ d _ j (by rw [hnow.out.1]; omega) rfl wr hD.out)
            obtain ⟨x, hx⟩ : ∃ x, now.getD j ⟨#[]⟩ = x := ⟨_, rfl⟩
            rw [hx] at hRd
            replace hx := hid hx
            generalize ws.getD j ⟨#[]⟩ = old at hcs
            go_wp2_with (first | ((with_reducible refine Calls.mono hRd.out ?_); rintro e w3 ⟨rfl, rfl⟩))
            go_roundg g
            case measure => omega
            case rel =>
              exact ⟨j + 1, by first | rfl | simp, by omega, hid ⟨ws.set j x, by rw [List.length_set]; exact hws.out, fun q hq => by
                rw [getD_set_ _ _ _ _ _ (by rw [hws.out]; omega)]
                split
                · rename_i e; rw [← e]; exact hx.out.symm
                · exact hwz.out q (by omega), hwA.out.set j x⟩, hid (hD.out.step (fun q hq _ hg => Below.heap_setCell wr ⟨bs, j, none⟩ _ q (fun e => hg (.inr e))) (by simp) (fun _ _ h => h)), hid (hM7.out.kept (Below.heap_setCell wr ⟨bs, j, none⟩ _ bm hne.out)), hid (hb.out.setCell (p := ⟨bs, j, none⟩) hBs.out _)⟩
    | succ g =>
      have hi30 : (i : Int) < 20 := by have := hn.out; omega
      have hil : (i : Int) < (ls.length : Int) := by have := hn.out; omega
      obtain ⟨ad, ea, hbl, hc⟩ := hL.out i (by omega)
      subst ea
      replace hc := (cell_same (w := w) (w' := wr) (by rw [D.add_block]; exact hb.out.block _ hbl)).trans hc
      have hx : (ls.getD i ⟨#[]⟩).size ≤ 281474976710656 := Nat.le_trans (hls.out _ (getD_mem ls i (by omega))) (by decide)
      generalize ls.getD i ⟨#[]⟩ = x at *
      obtain ⟨k, hk, hk9⟩ := key10 i x.size (by omega) hx
      replace hk := hid hk
      go_upto_region 13 with fail
      rw [hk.out]
      clear hk
      obtain ⟨st', hW', hP'⟩ := hI.out.p.write k hk9 (f x) (hA.out x)
      replace hP' := hid hP'
      have hWr : Hid (∀ W, Below wr.heap.size wr W → Calls Try.prog 23 #[.pointer (some ⟨d, 0, none⟩), .int .i64 (k : Int), .string (f x)] W fun e w' => e = .returned (.int .i64 0) ∧ (BoolsAt w' bm 52 mt ∧ Kd.R (Kd.int .i64) 3 w' B (fun k => k ≠ bm) u10 ord ∧ DiskOff B (GT bm u10) w' d st') ∧ Below B W w') := hid (fun W hW => by
        have h := Write.off B (GT bm u10) d st (k : Int) (f x) W (hI.out.d.below hW) (Nat.le_trans hl.out hW.size) (fun q hq => Nat.lt_of_lt_of_le (hI.out.lt q hq) hW.size) (by have := hI.out.p.loose; omega)
        rw [hW'] at h
        exact h.mono (fun e w' ⟨h1, h2, h3, h4⟩ => ⟨h1, ⟨(hI.out.m.kept (hW.block _ (blk_lt hI.out.m))).kept (h4 _ (.inl rfl)), IT.o_step (Kd.R_below hI.out.o hW) h4, h2⟩, h3⟩))
      clear hW'
      have hmt := hid hI.out.p.mlen
      go_upto_region 15 with (first | ((with_reducible refine Calls.mono (hF.out _ _) ?_); rintro e w4 ⟨rfl, hb4⟩; replace hb4 := hid hb4) | ((with_reducible refine Calls.mono (hWr.out _ hb4.out) ?_); rintro e w5 ⟨rfl, hq5, hb5⟩; replace hq5 := hid hq5; replace hb5 := hid ((hb.out.trans (hb4.out.mono hl.out)).trans hb5)))
      clear hWr hb hb4 hl hI hc
      have hl5 : Hid (B ≤ w5.heap.size) := hid (Nat.le_trans (Nat.le_of_eq hB.out) hb5.out.size)
      have hc5 := hq5.out.1.cell k (by rw [hmt.out]; omega)
      have hf5 := blk_frozen hq5.out.1 k
      have hk91 : (k : Int) < 10 := by omega
      cases hm : mt.getD k false with
      | true =>
        rw [hm] at hc5
        rw [hm, if_pos rfl] at hP'
        go_wp2_with fail
        go_roundg g
        case measure => omega
        case rel => exact ⟨i + 1, by first | rfl | simp, by omega, hid ⟨st', _, _, IT.mark hP'.out hq5.out.1 hq5.out.2.1 hq5.out.2.2⟩, hid (hb5.out.setCell (p := ⟨bm, k, none⟩) hBm.out _)⟩
      | false =>
        rw [hm] at hc5
        rw [hm, if_neg (by decide)] at hP'
        have hol : Hid (ord.length ≤ 20) := hid (by have h1 := hP'.out.loose; have h2 := congrArg List.length hP'.out.keys; rw [List.length_map, List.length_append, List.length_singleton] at h2; omega)
        go_upto_region 17 with ((with_reducible refine gate_builtin (b := .append) (xs := #[.tmp 65, .tmp 67]) rfl ?_); at_builtin; refine Kd.R_append (Kd.int .i64) B rfl (.tmp 65) (.tmp 67) 51 3 (.int .i64 0) 8 rfl Try.underlying51 info3 rfl (by decide) (by omega) u10 ord (k : Int) [.int .i64 (k : Int)] (fun q => q ≠ bm) (fun _ => False) rfl rfl ?aP (fun _ hk => hk.elim) ?aF ?aO (Below.refl B w5) ?aS ?aL ?_; (case aP => exact rfl); (case aF => exact (fun q hq e => by have := blk_lt hq5.out.1; omega)); (case aO => exact hq5.out.2.1); (case aS => exact hl5.out); (case aL => have := hol.out; omega); intro v1 w6 hR hb6 hg hat; have hq6 := hid (IT.grown hq5.out.1 hq5.out.2.1 hq5.out.2.2 hR hb6.size hg hat); replace hb6 := hid (hb5.out.trans hb6); clear hR hg hat)
        have hc6 := hq6.out.1.cell k (by rw [hmt.out]; omega)
        rw [hm] at hc6
        have hf6 := blk_frozen hq6.out.1 k
        clear hc5 hf5 hq5
        go_wp2_with fail
        go_roundg g
        case measure => omega
        case rel => exact ⟨i + 1, by first | rfl | simp, by omega, hid ⟨st', _, _, IT.mark hP'.out hq6.out.1 hq6.out.2.1 hq6.out.2.2⟩, hid (hb6.out.setCell (p := ⟨bm, k, none⟩) hBm.out _)⟩
theorem DiskTwice_walk (a0 : Option Addr) (len0 cap0 : Nat) (z0 : List ByteArray) (a1 : Option Addr) (len1 cap1 : Nat) (z1 : List Int) (a2 : Option Addr) (len2 cap2 : Nat) (z2 : List Int) (w : World)
    (w0 : IsStrs w a0 len0 cap0 z0) (s0 : ∀ s ∈ z0.take len0, s.size ≤ 140737488351232) (w1 : IsRow .i64 w a1 len1 cap1 z1) (w2 : IsRow .i64 w a2 len2 cap2 z2) :
    Calls Try.prog 9 #[.slice a0 len0 cap0, .slice a1 len1 cap1, .slice a2 len2 cap2] w fun e w' => e = .returned (.bool true) ∧ Below w.heap.size w w' := by
  obtain ⟨h1, h2, _⟩ := w0.row
  obtain ⟨k1, k2⟩ := w1.row
  obtain ⟨m1, m2⟩ := w2.row
  have h := twice_walk a0 cap0 (z0.take len0) a1 cap1 (z1.take len1) a2 cap2 (z2.take len2) w h2 s0 k2 m2
  rw [h1, k1, m1] at h
  exact h
end Go.Proofs.Ytnffhdlkkfphbaa.Pure
