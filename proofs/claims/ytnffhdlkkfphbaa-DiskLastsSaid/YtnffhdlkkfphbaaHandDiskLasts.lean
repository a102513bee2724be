/- Behind a Sync all is there, whatever a crash keeps; of what was written later each sector is as it was, or as it was written, as is kept. No condition. -/
import Derived.Test.YtnffhdlkkfphbaaDg
namespace Go.Proofs.Ytnffhdlkkfphbaa.Pure
set_option linter.unusedVariables false
set_option linter.unusedSimpArgs false
open Go.RowKit Go.Proofs.Ytnffhdlkkfphbaa.D Go.Proofs.YtnffhdlkkfphbaaW.PrintWords Go.Proofs.YtnffhdlkkfphbaaW.PrintLast Go.Proofs.YtnffhdlkkfphbaaW.PrintMore
open Go.Lib (hid)
def IsRow (k : IntKind) (w : World) (a : Option Addr) (len cap : Nat) (zs : List Int) : Prop :=
  (a = none ∧ len = 0 ∧ cap = 0 ∧ zs = []) ∨
  ∃ x, a = some x ∧ len ≤ cap ∧ cap ≤ maxLen ∧ zs.length = cap ∧ (∀ i, i < zs.length → w.cell? (x.add i) = some (.int k (zs.getD i 0))) ∧ ∀ n ∈ zs, (Lit.int k n).wf = true
theorem IsRow.row {w : World} {a : Option Addr} {len cap : Nat} {zs : List Int} (h : IsRow .i64 w a len cap zs) : (zs.take len).length = len ∧ RowA w (fun i => w.heap.size ≤ i) a (zs.take len) := by
  rcases h with ⟨rfl, rfl, rfl, rfl⟩ | ⟨x, rfl, h1, h2, h3, h4, h5⟩
  · exact ⟨rfl, RowA.nil _ _ _⟩
  · have hl : (zs.take len).length = len := by rw [List.length_take]; omega
    refine ⟨hl, fun i hi => ?_⟩
    rw [hl] at hi
    have hc := h4 i (by omega)
    have hlt := cell_lt hc
    rw [D.add_block] at hlt
    refine ⟨x, rfl, by omega, ?_⟩
    rw [hc]
    simp [List.getD_eq_getElem?_getD, hi]
structure P1 (A : Nat → ByteArray) (i : Nat) (st : St) : Prop where
  len : st.now.length = 8
  fuse : st.fuse = -1
  gone : st.gone = false
  loose : st.loose.length ≤ i
  at_ : ∀ j, j < i → st.now.getD j ⟨#[]⟩ = A j
theorem P1.write {A : Nat → ByteArray} {i : Nat} {st : St} (h : P1 A i st) (hi : i < 8) (hA : (A i).size = 256) : ∃ st', writes st (i : Int) (A i) = (0, st') ∧ P1 A (i + 1) st' := by
  refine ⟨_, writes_ok st (i : Int) (A i) h.gone (by omega) (by rw [h.len]; omega) hA (by rw [h.fuse]; decide), ?_⟩
  · refine ⟨?_, ?_, h.gone, ?_, ?_⟩
    · show (st.now.set _ _).length = 8
      rw [List.length_set]; exact h.len
    · show max (-1) (st.fuse - 1) = -1
      rw [h.fuse]; decide
    · show (if _ then _ else _ : List (Int × ByteArray)).length ≤ i + 1
      have := h.loose
      split
      · omega
      · rw [List.length_append, List.length_singleton]; omega
    · intro j hj
      show (st.now.set (i : Int).toNat (A i)).getD j _ = _
      rw [Int.toNat_natCast, getD_set_ _ _ _ _ _ (by rw [h.len]; omega)]
      by_cases e : i = j
      · rw [if_pos e, e]
      · rw [if_neg e]; exact h.at_ j (by omega)
structure P2 (A C : Nat → ByteArray) (i : Nat) (st : St) : Prop where
  len : st.now.length = 8
  fuse : st.fuse = -1
  gone : st.gone = false
  loose : st.loose = eight A (min i 8)
  old : ∀ j, j < 8 → i ≤ j → st.now.getD (7 - j) ⟨#[]⟩ = A (7 - j)
  new : ∀ j, j < 8 → j + 8 < i → st.now.getD (7 - j) ⟨#[]⟩ = C (j + 8)
theorem P2.write {A C : Nat → ByteArray} {i : Nat} {st : St} (h : P2 A C i st) (hi : i < 16) (hC : (C i).size = 256) : ∃ st', writes st ((7 - i % 8 : Nat) : Int) (C i) = (0, st') ∧ P2 A C (i + 1) st' := by
  have hm : i % 8 < 8 := Nat.mod_lt _ (by decide)
  refine ⟨_, writes_ok st ((7 - i % 8 : Nat) : Int) (C i) h.gone (by omega) (by rw [h.len]; omega) hC (by rw [h.fuse]; decide), ?_⟩
  · refine ⟨?_, ?_, h.gone, ?_, ?_, ?_⟩
    · show (st.now.set _ _).length = 8
      rw [List.length_set]; exact h.len
    · show max (-1) (st.fuse - 1) = -1
      rw [h.fuse]; decide
    · show (if _ then _ else _ : List (Int × ByteArray)) = _
      rw [Int.toNat_natCast, h.loose, eight_has A (min i 8) (i % 8) (by omega) hm]
      by_cases h8 : i < 8
      · have e : i % 8 = i := Nat.mod_eq_of_lt h8
        rw [e, show min i 8 = i by omega, show min (i + 1) 8 = i + 1 by omega, if_neg (by simp), h.old i h8 (Nat.le_refl _), eight_succ]
      · rw [show min i 8 = 8 by omega, show min (i + 1) 8 = 8 by omega, if_pos (by simpa using hm)]
    · intro j hj hij
      show (st.now.set _ (C i)).getD (7 - j) _ = _
      rw [Int.toNat_natCast, getD_set_ _ _ _ _ _ (by rw [h.len]; omega), if_neg (by omega)]
      exact h.old j hj (by omega)
    · intro j hj hij
      show (st.now.set _ (C i)).getD (7 - j) _ = _
      rw [Int.toNat_natCast, getD_set_ _ _ _ _ _ (by rw [h.len]; omega)]
      by_cases e : i % 8 = j
      · rw [if_pos (by omega)]
        congr 1
        omega
      · rw [if_neg (by omega)]
        exact h.new j hj (by omega)
/-- What a crash leaves. -/
theorem P2.crash {A C : Nat → ByteArray} {st : St} (h : P2 A C 16 st) (ks : List Int) (m : Nat) (hm : m < 8) :
    (crashN st.loose ks st.now st.loose.length).getD (7 - m) ⟨#[]⟩ = if lets ks m then A (7 - m) else C (m + 8) := by
  rw [h.loose, show min 16 8 = 8 from rfl, eight_len, eight_crash A ks st.now h.len m hm 8 (Nat.le_refl _), h.new m hm (by omega)]
  cases lets ks m with
  | true => rw [if_pos ⟨hm, rfl⟩, if_pos rfl]
  | false => rw [if_neg (by rintro ⟨_, h⟩; exact absurd h (by decide)), if_neg (by decide)]
theorem read_back {B d : Nat} {now : List ByteArray} (hn : now.length = 8) (i : Nat) (hi : i < 8) (w : World) (h : DiskOn B w d { now := now, loose := [], fuse := -1, gone := false }) :
    Calls Try.prog 24 #[.pointer (some ⟨d, 0, none⟩), .int .i64 (7 - (i : Int))] w fun e w' => e = .returned (.tuple #[.string (now.getD (7 - i) ⟨#[]⟩), .int .i64 0]) ∧ w = w' := by
  have h1 := Read.calls _ d _ (7 - (i : Int)) w h
  have e : reads { now := now, loose := [], fuse := -1, gone := false } (7 - (i : Int)) = (now.getD (7 - i) ⟨#[]⟩, 0) := by
    unfold reads
    dsimp only
    rw [if_neg (by decide), if_neg (by rw [hn]; omega), show (7 - (i : Int)).toNat = 7 - i by omega]
  rw [e] at h1
  exact h1
def fA (a : ByteArray) (i : Nat) : ByteArray := fillB (a ++ ⟨#[UInt8.ofNat i]⟩)
set_option maxHeartbeats 8000000 in
set_option maxRecDepth 100000 in
theorem lasts_walk (a0 a1 : ByteArray) (Ak : Option Addr) (ck : Nat) (ks : List Int) (w : World) (w0 : a0.size ≤ 140737488351232) (w1 : a1.size ≤ 140737488351232) (hK : RowA w (fun i => w.heap.size ≤ i) Ak ks) : 
    Calls Try.prog 10 #[.string a0, .string a1, .slice Ak ks.length ck] w fun e w' => e = .returned (.bool true) ∧ Below w.heap.size w w' := by
  obtain ⟨B, hB⟩ : ∃ B, B = w.heap.size := ⟨_, rfl⟩
  rw [← hB] at hK ⊢
  replace hB := hid hB
  replace hK := hid hK
  have hE := hid (fun W => examples.calls W)
  have hN : Hid (∀ W : World, B ≤ W.heap.size → Calls Try.prog 21 #[.int .i64 8] W fun e w' => ∃ d, e = .returned (.tuple #[.pointer (some ⟨d, 0, none⟩), .int .i64 0]) ∧ DiskOn B w' d { now := List.replicate 8 zeros, loose := [], fuse := -1, gone := false } ∧ Below W.heap.size W w') := hid (fun W hW => New.on B 8 (by omega) W hW)
  generalize zeros = Z at *
  have q0 : ¬9223372036854775807 < a0.size + 1 := by omega
  have q1 : ¬9223372036854775807 < a1.size + 1 := by omega
  have hF := hid (fun (a : ByteArray) (i : Nat) (W : World) => (show Calls Try.prog 22 #[.string (a ++ ⟨#[UInt8.ofNat i]⟩)] W fun e w' => e = .returned (.string (fA a i)) ∧ Below W.heap.size W w' from fill.calls _ W))
  have hA : Hid (∀ a i, (fA a i).size = 256) := hid (fun a i => by unfold fA; exact (fill_some _).2)
  generalize fA = f at *
  clear w0 w1
  go_enter Try.func10, Try.ntmps10
  (try dsimp only [List.append])
  go_upto_region 4 with (first | (with_reducible refine Calls.mono (hE.out _) ?_; rintro e w1 ⟨rfl, hb1⟩; replace hb1 := hid hb1))
  have hl1 : Hid (B ≤ w1.heap.size) := hid (Nat.le_trans (Nat.le_of_eq hB.out) hb1.out.size)
  go_upto_region 7 with (first | (with_reducible refine Calls.mono (hN.out _ hl1.out) ?_; rintro e w2 ⟨d, rfl, hD2, hb2⟩; replace hD2 := hid hD2; replace hb2 := hid hb2))
  replace hb2 : Hid (Below B w w2) := hid (Below.trans (by rw [hB.out]; exact hb1.out) (hb2.out.mono hl1.out))
  replace hD2 : Hid (∃ st, P1 (f a0) 0 st ∧ DiskOn B w2 d st) := hid ⟨_, ⟨List.length_replicate, rfl, rfl, Nat.le_refl _, fun j hj => absurd hj (Nat.not_lt_zero j)⟩, hD2.out⟩
  clear hb1 hl1 hN hE
  go_wp2_with fail
  go_loopg [10] 8 (fun g v8 wr => ∃ (i : Nat), v8 = .int .i64 (i : Int) ∧ i + g = 8 ∧ Hid (∃ st, P1 (f a0) i st ∧ DiskOn B wr d st) ∧ Hid (Below B w wr))
  case atStart => exact ⟨0, rfl, by omega, hD2, hb2⟩
  case round =>
    clear hb2 hD2
    obtain ⟨i, rfl, hi, hD, hb⟩ := hrel
    have hl : Hid (B ≤ wr.heap.size) := hid (Nat.le_trans (Nat.le_of_eq hB.out) hb.out.size)
    obtain ⟨st, hP, hDs⟩ := hD.out
    replace hP := hid hP
    replace hDs := hid hDs
    clear hD
    cases gk with
    | zero =>
      obtain rfl : i = 8 := by omega
      have hSy : Hid (Calls Try.prog 26 #[.pointer (some ⟨d, 0, none⟩)] wr fun e w' => e = .returned (.int .i64 0) ∧ (∃ st, P2 (f a0) ((fun i => f a1 (i + 9))) 0 st ∧ DiskOn B w' d st) ∧ Below B wr w') := hid (by
        refine (Sync.on B d st wr hDs.out hl.out).mono ?_
        rintro e w' ⟨rfl, hD, hb⟩
        rw [hP.out.gone]
        rw [if_neg (by rw [hP.out.gone]; decide)] at hD
        exact ⟨rfl, ⟨{ st with loose := [] }, ⟨hP.out.len, hP.out.fuse, hP.out.gone, rfl, fun j hj _ => hP.out.at_ (7 - j) (by omega), fun j hj h => absurd h (Nat.not_lt_zero _)⟩, hD⟩, hb⟩)
      clear hP hDs
      go_upto_region 13 with (first | (with_reducible refine Calls.mono hSy.out ?_; rintro e w4 ⟨rfl, hD4, hb4⟩; replace hD4 := hid hD4; replace hb4 := hid (hb.out.trans hb4)))
      clear hb hl hSy
      go_wp2_with fail
      go_loopg [12] 16 (fun g v8 wr => ∃ (i : Nat), v8 = .int .i64 (i : Int) ∧ i + g = 16 ∧ Hid (∃ st, P2 (f a0) ((fun i => f a1 (i + 9))) i st ∧ DiskOn B wr d st) ∧ Hid (Below B w wr))
      case atStart => exact ⟨0, rfl, by omega, hD4, hb4⟩
      case round =>
        clear hb4 hD4
        obtain ⟨i, rfl, hi, hD, hb⟩ := hrel
        have hl : Hid (B ≤ wr.heap.size) := hid (Nat.le_trans (Nat.le_of_eq hB.out) hb.out.size)
        obtain ⟨st, hP, hDs⟩ := hD.out
        replace hP := hid hP
        replace hDs := hid hDs
        clear hD
        cases gk with
        | zero =>
          obtain rfl : i = 16 := by omega
          have hLo : Hid (Calls Try.prog 30 #[.pointer (some ⟨d, 0, none⟩)] wr fun e w' => ∃ A c, e = .returned (.slice A 8 c) ∧ Below wr.heap.size wr w') := hid (loose_n (by rw [hP.out.loose, eight_len]; rfl) (by omega) wr hDs.out)
          have hCr : Hid (∀ W, Below wr.heap.size wr W → Calls Try.prog 28 #[.pointer (some ⟨d, 0, none⟩), .slice Ak ks.length ck] W fun e w' => e = .returned (.tuple #[]) ∧ (∃ now, (now.length = 8 ∧ ∀ m, m < 8 → now.getD (7 - m) ⟨#[]⟩ = if lets ks m then f a0 (7 - m) else f a1 (m + 17)) ∧ DiskOn B w' d { now := now, loose := [], fuse := -1, gone := false }) ∧ Below B W w') := hid (fun W hW => by
            have hbW := hb.out.trans (hW.mono hl.out)
            refine (Crash.on B d st Ak ck ks W (hDs.out.below hW) (Nat.le_trans hl.out hW.size) (hK.out.moved (fun i hi hF => hbW.block i (Nat.lt_of_not_le hF)) (fun _ _ h => h)) (by rw [hP.out.loose, eight_len]; decide)).mono ?_
            rintro e w' ⟨rfl, hD, hb⟩
            exact ⟨rfl, ⟨_, ⟨by rw [crash_len]; exact hP.out.len, fun m hm => hP.out.crash ks m hm⟩, hD⟩, hb⟩)
          clear hP hDs
          go_upto_region 20 with (first | (with_reducible refine Calls.mono hLo.out ?_; rintro e w4 ⟨lA, lc, rfl, hb4⟩; replace hb4 := hid hb4) | (with_reducible refine Calls.mono (hCr.out _ hb4.out) ?_; rintro e w5 ⟨rfl, hD5, hb5⟩; replace hD5 := hid hD5; replace hb5 := hid ((hb.out.trans (hb4.out.mono hl.out)).trans hb5)))
          obtain ⟨now, hnow, hD6⟩ := hD5.out
          replace hnow := hid hnow
          replace hD6 := hid hD6
          clear hb hl hb4 hLo hCr hD5
          go_wp2_with fail
          go_loopg [14] 8 (fun g v8 wr => ∃ (i : Nat), v8 = .int .i64 (i : Int) ∧ i + g = 8 ∧ Hid (DiskOn B wr d { now := now, loose := [], fuse := -1, gone := false }) ∧ Hid (Below B w wr))
          case atStart => exact ⟨0, rfl, by omega, hD6, hb5⟩
          case round =>
            clear hb5 hD6
            obtain ⟨i, rfl, hi, hD, hb⟩ := hrel
            have hl : Hid (B ≤ wr.heap.size) := hid (Nat.le_trans (Nat.le_of_eq hB.out) hb.out.size)
            cases gk with
            | zero =>
              obtain rfl : i = 8 := by omega
              have hLo : Hid (Calls Try.prog 30 #[.pointer (some ⟨d, 0, none⟩)] wr fun e w' => ∃ A c, e = .returned (.slice A 0 c) ∧ Below wr.heap.size wr w') := hid (loose_n (n := 0) rfl (Nat.zero_le _) wr hD.out)
              have hU : Hid (∀ W, Below wr.heap.size wr W → Calls Try.prog 27 #[.pointer (some ⟨d, 0, none⟩)] W fun e w' => e = .returned (.bool true) ∧ W = w') := hid (fun W hW => Up.calls _ d _ W (hD.out.below hW))
              go_wp2_with (first | (with_reducible refine Calls.mono hLo.out ?_; rintro e w4 ⟨mA, mc, rfl, hb4⟩; replace hb4 := hid hb4) | (with_reducible refine Calls.mono (hU.out _ hb4.out) ?_; rintro e w5 ⟨rfl, rfl⟩))
              go_ret
              exact ⟨rfl, hb.out.trans (hb4.out.mono hl.out)⟩
            | succ g =>
              have hlt : (i : Int) < 8 := by omega
              obtain ⟨j, hj⟩ : ∃ j : Nat, j = 7 - i := ⟨_, rfl⟩
              obtain ⟨j2, hj2⟩ : ∃ j : Nat, j = i + 17 := ⟨_, rfl⟩
              have hcvA := fun W => conv_byte W j (by omega)
              have hcvB := fun W => conv_byte W j2 (by omega)
              rw [show (j : Int) = 7 - (i : Int) by omega] at hcvA
              rw [show (j2 : Int) = (i : Int) + 17 by omega] at hcvB
              have hR := hid (read_back hnow.out.1 i (by omega) wr hD.out)
              rw [hnow.out.2 i (by omega), ← hj, ← hj2] at hR
              clear hj hj2
              by_cases hki : ks.length ≤ i
              · have h1 : (ks.length : Int) ≤ (i : Int) := by omega
                rw [show lets ks i = true by simp [lets, hki], if_pos rfl] at hR
                go_wp2_with (first | (with_reducible refine Calls.mono hR.out ?_; rintro e w4 ⟨rfl, rfl⟩) | (with_reducible refine Calls.mono (hF.out _ _ _) ?_; rintro e w4 ⟨rfl, hb4⟩; replace hb4 := hid (below_after _ hb4)))
                go_roundg g
                case measure => omega
                case rel => exact ⟨i + 1, by first | rfl | simp, by omega, hid (hD.out.below hb4.out), hid (hb.out.trans (hb4.out.mono hl.out))⟩
              · have h1 : (i : Int) < (ks.length : Int) := by omega
                obtain ⟨adk, ek, hF2, hck⟩ := hK.out i (by omega)
                subst ek
                have hbl : adk.block < B := Nat.lt_of_not_le hF2
                have hsm : Hid (∀ W, Below wr.heap.size wr W → W.cell? (adk.add i) = some (.int .i64 (ks.getD i 0))) := hid (fun W hW => (cell_same (by rw [D.add_block]; exact (hb.out.trans (hW.mono hl.out)).block _ hbl)).trans hck)
                have hle : lets ks i = decide (ks.getD i 0 % 2 = 0) := by
                  unfold lets
                  rw [decide_eq_false hki, Bool.false_or, D.and_one]
                  rfl
                rw [hle] at hR
                clear hck hF2 hbl hle
                generalize ks.getD i 0 = x at *
                by_cases hx : x % 2 = 0
                · rw [decide_eq_true hx, if_pos rfl] at hR
                  have hx2 : x.tmod 2 = 0 := (tmod_two x).2 hx
                  clear hx
                  go_wp2_with (first | (with_reducible refine Calls.mono hR.out ?_; rintro e w4 ⟨rfl, rfl⟩) | (with_reducible refine Calls.mono (hF.out _ _ _) ?_; rintro e w4 ⟨rfl, hb4⟩; replace hb4 := hid (below_after _ hb4); have hck := hsm.out _ hb4.out))
                  go_roundg g
                  case measure => omega
                  case rel => exact ⟨i + 1, by first | rfl | simp, by omega, hid (hD.out.below hb4.out), hid (hb.out.trans (hb4.out.mono hl.out))⟩
                · rw [decide_eq_false hx, if_neg (by decide)] at hR
                  have hx2 : ¬ x.tmod 2 = 0 := fun h => hx ((tmod_two x).1 h)
                  clear hx
                  go_upto_region 26 with (first | (with_reducible refine Calls.mono hR.out ?_; rintro e w4 ⟨rfl, rfl⟩) | (with_reducible refine Calls.mono (hF.out _ _ _) ?_; rintro e w4 ⟨rfl, hb4⟩; replace hb4 := hid (below_after _ hb4); have hck := hsm.out _ hb4.out))
                  go_wp2_with (first | (with_reducible refine Calls.mono (hF.out _ _ _) ?_; rintro e w5 ⟨rfl, hb5⟩; replace hb5 := hid (below_after _ hb5)))
                  go_roundg g
                  case measure => omega
                  case rel =>
                    have hb6 := hb4.out.trans (hb5.out.mono hb4.out.size)
                    exact ⟨i + 1, by first | rfl | simp, by omega, hid (hD.out.below hb6), hid (hb.out.trans (hb6.mono hl.out))⟩
        | succ g =>
          have hlt : (i : Int) < 16 := by omega
          obtain ⟨j, hj⟩ : ∃ j : Nat, j = i + 9 := ⟨_, rfl⟩
          have hcv := conv_byte wr j (by omega)
          rw [show (j : Int) = (i : Int) + 9 by omega] at hcv
          obtain ⟨st', hW', hP'⟩ := hP.out.write (by omega) (hA.out a1 (i + 9))
          replace hP' := hid hP'
          rw [← hj] at hW'
          clear hj
          have hW : Hid (∀ W, Below wr.heap.size wr W → Calls Try.prog 23 #[.pointer (some ⟨d, 0, none⟩), .int .i64 (7 - (i : Int) % 8), .string (f a1 j)] W fun e w' => e = .returned (.int .i64 0) ∧ DiskOn B w' d st' ∧ Below B W w') := hid (fun W hW => by
            have h := Write.on B d st ((7 - i % 8 : Nat) : Int) (f a1 j) W (hDs.out.below hW) (Nat.le_trans hl.out hW.size) (by rw [hP.out.loose, eight_len]; omega)
            rw [hW', show ((7 - i % 8 : Nat) : Int) = 7 - (i : Int) % 8 by omega] at h
            exact h)
          clear hW'
          go_wp2_with (first | (with_reducible refine Calls.mono (hF.out _ _ _) ?_; rintro e w4 ⟨rfl, hb4⟩; replace hb4 := hid (below_after _ hb4)) | (with_reducible refine Calls.mono (hW.out _ hb4.out) ?_; rintro e w5 ⟨rfl, hD5, hb5⟩; replace hD5 := hid hD5; replace hb5 := hid hb5))
          go_roundg g
          case measure => omega
          case rel => exact ⟨i + 1, by first | rfl | simp, by omega, hid ⟨st', hP'.out, hD5.out⟩, hid ((hb.out.trans (hb4.out.mono hl.out)).trans hb5.out)⟩
    | succ g =>
      have hlt : (i : Int) < 8 := by omega
      have hcv := conv_byte wr i (by omega)
      obtain ⟨st', hW', hP'⟩ := hP.out.write (by omega) (hA.out a0 i)
      replace hP' := hid hP'
      have hW : Hid (∀ W, Below wr.heap.size wr W → Calls Try.prog 23 #[.pointer (some ⟨d, 0, none⟩), .int .i64 (i : Int), .string (f a0 i)] W fun e w' => e = .returned (.int .i64 0) ∧ DiskOn B w' d st' ∧ Below B W w') := hid (fun W hW => by
        have h := Write.on B d st (i : Int) (f a0 i) W (hDs.out.below hW) (Nat.le_trans hl.out hW.size) (by have := hP.out.loose; omega)
        rw [hW'] at h
        exact h)
      clear hW'
      go_wp2_with (first | (with_reducible refine Calls.mono (hF.out _ _ _) ?_; rintro e w4 ⟨rfl, hb4⟩; replace hb4 := hid (below_after _ hb4)) | (with_reducible refine Calls.mono (hW.out _ hb4.out) ?_; rintro e w5 ⟨rfl, hD5, hb5⟩; replace hD5 := hid hD5; replace hb5 := hid hb5))
      go_roundg g
      case measure => omega
      case rel => exact ⟨i + 1, by first | rfl | simp, by omega, hid ⟨st', hP'.out, hD5.out⟩, hid ((hb.out.trans (hb4.out.mono hl.out)).trans hb5.out)⟩
theorem DiskLasts_walk (a0 : ByteArray) (a1 : ByteArray) (a2 : Option Addr) (len2 cap2 : Nat) (z2 : List Int) (w : World) (w0 : a0.size ≤ 140737488351232) (w1 : a1.size ≤ 140737488351232) (w2 : IsRow .i64 w a2 len2 cap2 z2) :
    Calls Try.prog 10 #[.string a0, .string a1, .slice a2 len2 cap2] w fun e w' => e = .returned (.bool true) ∧ Below w.heap.size w w' := by
  obtain ⟨h1, h2⟩ := w2.row
  have h := lasts_walk a0 a1 a2 cap2 (z2.take len2) w w0 w1 h2
  rw [h1] at h
  exact h
end Go.Proofs.Ytnffhdlkkfphbaa.Pure
