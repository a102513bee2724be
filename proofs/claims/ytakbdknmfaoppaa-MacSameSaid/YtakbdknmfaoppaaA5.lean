/-
  The walk of sha.Sum.
-/
import Derived.Test.YtakbdknmfaoppaaA4
import Derived.Laws.BytesArg
namespace Go.Proofs.Ytakbdknmfaoppaa.R
set_option linter.unusedVariables false
set_option linter.unusedSimpArgs false
open Go.RowKit Go.Proofs.YtakbdknmfaoppaaW.PrintWords Go.Proofs.YtakbdknmfaoppaaW.PrintLast Go.Proofs.YtakbdknmfaoppaaW.PrintMore
open Go.Lib (hid)
def zB (n : Nat) : ByteArray := ⟨(Lib.repeatL ([0] : List UInt8) n).toArray⟩
def pad1 (s : ByteArray) : ByteArray := s ++ ((⟨#[128]⟩ : ByteArray) ++ zB ((119 - s.size % 64) % 64))
def pd (n : Int) : Nat → Nat → ByteArray → ByteArray
  | 0, _, p => p
  | f + 1, i, p => pd n f (i + 1) (p ++ strOfNums [n / 2 ^ (56 - 8 * i) % 256])
def padF (s : ByteArray) : ByteArray := pd ((s.size : Int) * 8) 8 0 (pad1 s)
def blk (p : ByteArray) : Nat → Nat → List Int → List Int
  | 0, _, h => h
  | f + 1, i, h => blk p f (i + 1) (mixF (p.extract (64 * i) (64 * i + 64)) K0 h)
def four (x : Int) : List Int := [x / 16777216 % 256, x / 65536 % 256, x / 256 % 256, x % 256]
def outF (h : List Int) : List Int := h.flatMap four
def sumB (s : ByteArray) : ByteArray := strOfNums (outF (blk (padF s) ((padF s).size / 64) 0 H0))
theorem idx_cells (h : List Int) (hl : h.length = 8) (i : Nat) (hi : i < 8) (w : World) : (Instr.index 36 (.agg (cells h)) (.int .i64 (i : Int))).run Try.prog w = .ok (.int .u32 (h.getD i 0)) w := by
  match h, hl with
  | [a, b, c, d, e, f, g, k], _ =>
    have : i = 0 ∨ i = 1 ∨ i = 2 ∨ i = 3 ∨ i = 4 ∨ i = 5 ∨ i = 6 ∨ i = 7 := by omega
    rcases this with rfl | rfl | rfl | rfl | rfl | rfl | rfl | rfl <;> rfl
theorem reads_new (W : World) (xs : List Int) (hl : xs.length ≤ 1000000) : ReadsRow (fun x cs => cs = [Value.int .u8 x]) 1 (W.alloc (.cells (xs.map (Value.int .u8)).toArray 5)) (some ⟨W.heap.size, 0, none⟩) xs.length xs := by
  refine ⟨rfl, by omega, fun _ => ⟨_, rfl, fun j p hj => ⟨[.int .u8 p], rfl, rfl, fun i u hu => ?_⟩⟩⟩
  have hi : i = 0 := by have := (List.getElem?_eq_some_iff.1 hu).1; simp at this; exact this
  subst hi
  rw [add_plain]
  refine (blk_cell (blk_new W _) _).trans ?_
  simp at hu ⊢
  exact ⟨p, hj, hu⟩
theorem mixF_len (b : ByteArray) (K H : List Int) (h : H.length = 8) : (mixF b K H).length = 8 := by
  have h1 : ∀ v f i hs, (ad v f i hs).length = hs.length := by
    intro v f
    induction f with
    | zero => intro i hs; rfl
    | succ f ih => intro i hs; rw [ad, ih, List.length_set]
  unfold mixF
  rw [h1, h]
set_option maxHeartbeats 4000000 in
set_option maxRecDepth 100000 in
theorem Sum.go (s : ByteArray) (w : World) (hs : s.size ≤ 1000000) :
    Calls Try.prog 12 #[.string s] w fun e w' => e = .returned (.string (sumB s)) ∧ Below w.heap.size w w' := by
  have HT := hid (fun W => tables.calls W)
  obtain ⟨c, hc⟩ : ∃ c : Nat, (119 - s.size % 64) % 64 = c := ⟨_, rfl⟩
  have hc64 : c < 64 := by omega
  have HRp : Hid (∀ W : World, Calls Try.prog 24 #[.string (⟨#[0]⟩ : ByteArray), .int .i64 c] W fun e w' => e = .returned (.string (zB c)) ∧ Below W.heap.size W w') := hid (fun W => Try.strings_Repeat (⟨#[0]⟩ : ByteArray) c W (by omega) (by show 1 * _ ≤ _; omega))
  have hci : (119 - (s.size : Int)) % 64 = (c : Int) := by omega
  have hci2 : (119 - (s.size : Int) % 64) % 64 = (c : Int) := by omega
  have hzB : (zB c).size = c := by
    show (Lib.repeatL ([0] : List UInt8) c).toArray.size = c
    rw [List.size_toArray, Lib.repeatL_length]
    simp
  have HP1 : Hid (pad1 s = s ++ ((⟨#[128]⟩ : ByteArray) ++ zB c)) := hid (by rw [pad1, hc])
  replace hc := hid hc
  generalize zB c = z at *
  have hz64 : z.size ≤ 64 := by omega
  have hzb : (9223372036854775807 < s.size + (1 + z.size)) = False := eq_false (by omega)
  replace hzB := hid hzB
  have hH := H0_len
  have hK := K0_len
  have i36 : (Try.prog.info? 36).map (·.size) = some 8 := by kernel_rfl
  have i37 : (Try.prog.info? 37).map (·.size) = some 64 := by kernel_rfl
  have o1 := cells_one H0
  have o2 := cells_one K0
  go_enter Try.func12, Try.ntmps12
  go_wp2_with fail
  refine (HT.out _).mono ?_
  rintro e w1 ⟨rfl, hB⟩
  have t3 : ((w1.alloc (.cells (cells (List.replicate 8 0)) 36)).alloc (.cells (cells (List.replicate 64 0)) 37)).there w1.heap.size 0 (cells H0).size := by
    have := cells_there (blk_alloc (blk_new w1 (.cells (cells (List.replicate 8 0)) 36)) (.cells (cells (List.replicate 64 0)) 37))
    rw [cells_size] at this
    rw [cells_size, hH]
    exact this
  go_wp2_with ((with_reducible refine wpList_store_mid rfl 36 (.tmp 3) (.tmp 13) ?ho w1.heap.size 0 (cells H0) ?hx ?hy ?ht ?hi o1 ?_); (case ho => rfl); (case hx => rfl); (case hy => rfl); (case hi => rw [cells_size, hH]; exact i36); (case ht => exact t3); refine Hid.out ?_)
  change Hid (wpList Try.prog _ _ _ _ (((w1.alloc (.cells (cells (List.replicate 8 0)) 36)).alloc (.cells (cells (List.replicate 64 0)) 37)).setCells w1.heap.size 0 (cells H0).toList))
  have F3 := setCells_whole (blk_alloc (blk_new w1 (.cells (cells (List.replicate 8 0)) 36)) (.cells (cells (List.replicate 64 0)) 37)) (cells H0) (by rw [cells_size, cells_size, hH]; rfl)
  have F4 := (far_cells (g := w1.heap.size + 1) (b := w1.heap.size) (by omega) (cells H0).toList 0 _).trans (show ((w1.alloc (.cells (cells (List.replicate 8 0)) 36)).alloc (.cells (cells (List.replicate 64 0)) 37)).heap[w1.heap.size + 1]? = some (.cells (cells (List.replicate 64 0)) 37 (0, 0)) by have := blk_new (w1.alloc (.cells (cells (List.replicate 8 0)) 36)) (.cells (cells (List.replicate 64 0)) 37); simpa using this)
  have FB := below_setCells (g := w1.heap.size) hB.size (cells H0).toList 0 _ ((hB.alloc hB.size (.cells (cells (List.replicate 8 0)) 36)).alloc (by have := hB.size; simp; omega) (.cells (cells (List.replicate 64 0)) 37))
  have hB1 : w.heap.size ≤ w1.heap.size := hB.size
  obtain ⟨W2, hW2⟩ : ∃ W2, ((w1.alloc (.cells (cells (List.replicate 8 0)) 36)).alloc (.cells (cells (List.replicate 64 0)) 37)).setCells w1.heap.size 0 (cells H0).toList = W2 := ⟨_, rfl⟩
  rw [hW2] at F3 F4 FB ⊢
  clear hW2 t3 hB
  generalize w1.heap.size = g3 at *
  have t4 : W2.there (g3 + 1) 0 (cells K0).size := by
    have := cells_there F4
    rw [cells_size] at this
    rw [cells_size, hK]
    exact this
  refine hid ?_
  go_wp2_with ((with_reducible refine wpList_store_mid rfl 37 (.tmp 4) (.tmp 14) ?ho (g3 + 1) 0 (cells K0) ?hx ?hy ?ht ?hi o2 ?_); (case ho => rfl); (case hx => rfl); (case hy => rfl); (case hi => rw [cells_size, hK]; exact i37); (case ht => exact t4); refine Hid.out ?_)
  have G4 := setCells_whole F4 (cells K0) (by rw [cells_size, cells_size, hK]; rfl)
  have G3 := (far_cells (g := g3) (b := g3 + 1) (by omega) (cells K0).toList 0 _).trans F3
  have GB := below_setCells (g := g3 + 1) (by omega) (cells K0).toList 0 _ FB
  obtain ⟨W3, hW3⟩ : ∃ W3, W2.setCells (g3 + 1) 0 (cells K0).toList = W3 := ⟨_, rfl⟩
  rw [hW3] at G3 G4 GB ⊢
  clear hW3 F3 F4 FB t4
  have HG := hid (And.intro G3 (And.intro G4 GB))
  have hz3 : g3 + 1 < W3.heap.size := blk_lt G4
  clear G3 G4 GB
  obtain ⟨h0, hh0⟩ : ∃ h, H0 = h := ⟨_, rfl⟩
  obtain ⟨k0, hk0⟩ : ∃ h, K0 = h := ⟨_, rfl⟩
  rw [hh0] at hH HG o1
  rw [hk0] at hK HG o2
  replace hh0 := hid hh0
  replace hk0 := hid hk0
  refine hid ?_
  go_wp2_with fail
  refine (HRp.out _).mono ?_
  rintro e w4 ⟨rfl, hb4⟩
  replace hb4 := hid hb4
  go_wp2_with fail
  obtain ⟨pf, hpf⟩ : ∃ pf, padF s = pf := ⟨_, rfl⟩
  have HPF := hid hpf
  have HP8 : Hid (pd ((s.size : Int) * 8) 8 0 (s ++ ((⟨#[128]⟩ : ByteArray) ++ z)) = pf) := hid (by rw [← HP1.out]; exact hpf)
  clear hpf
  have hn1 : 0 ≤ (s.size : Int) * 8 := by omega
  have hn2 : (s.size : Int) * 8 ≤ 8000000 := by omega
  have hps : Hid ((s ++ ((⟨#[128]⟩ : ByteArray) ++ z)).size = s.size + (1 + z.size)) := hid (by rw [ByteArray.size_append, ByteArray.size_append]; rfl)
  generalize (s.size : Int) * 8 = n at *
  have HB0 : Hid (Below W3.heap.size W3 w4) := hb4
  go_loopw [0, 6, 28] (fun v0 v6 v28 wr => ∃ (i : Nat) (p : ByteArray), v0 = .string p ∧ v28 = .int .i64 (i : Int) ∧ i ≤ 8 ∧ Hid (p.size = s.size + (1 + z.size) + i) ∧ Hid (Below W3.heap.size W3 wr) ∧ Hid (pd n (8 - i) i p = pf)) (fun v0 v6 v28 _ => 8 - (intOf v28).toNat)
  case atStart => exact ⟨0, _, rfl, rfl, by decide, hps, HB0, HP8⟩
  case round =>
    obtain ⟨i, p, rfl, rfl, hi, hsz, hbw, HP⟩ := hrel
    by_cases hlt : i < 8
    · have hlt2 : (i : Int) < 8 := by omega
      obtain ⟨m, hm⟩ : ∃ m : Nat, 56 - 8 * i = m := ⟨_, rfl⟩
      have hm2 : 56 - 8 * (i : Int) = (m : Int) := by omega
      have hm3 : min m 64 = m := by omega
      have hm4 : (0 : Int) ≤ (m : Int) := by omega
      have hP := HP.out
      rw [show 8 - i = (8 - (i + 1)) + 1 by omega, pd, hm] at hP
      replace hP := hid hP
      replace hm := hid hm
      have hcv : (convert 26 9 (.slice (some ⟨wr.heap.size, 0, none⟩) 1 1)).run Try.prog (wr.alloc (.cells #[.int .u8 (n / 2 ^ m % 256)] 5)) = .ok (.string (strOfNums [n / 2 ^ m % 256])) (wr.alloc (.cells #[.int .u8 (n / 2 ^ m % 256)] 5)) :=
        run_convert_bytes_arg (P := Try.prog) _ 26 5 Try.underlying26 Try.underlying5 wr.heap.size 0 1 1 [n / 2 ^ m % 256] rfl (fun j hj => by
          have : j = 0 := by simpa using hj
          subst this
          have := blk_cell (blk_new wr (.cells #[.int .u8 (n / 2 ^ m % 256)] 5)) 0
          exact this) 9 Try.underlying9
      have hq1 : (strOfNums [n / 2 ^ m % 256]).size = 1 := rfl
      generalize strOfNums [n / 2 ^ m % 256] = q at *
      have hq2 : (9223372036854775807 < p.size + q.size) = False := eq_false (by have := hsz.out; omega)
      have hs2 : Hid ((p ++ q).size = s.size + (1 + z.size) + (i + 1)) := hid (by rw [ByteArray.size_append, hsz.out, hq1]; omega)
      have hbs := hbw.out.size
      replace hq1 := hid hq1
      go_wp2_with fail
      go_roundw
      case rel => exact ⟨i + 1, p ++ q, rfl, by go_num, by omega, hs2, hid (hbw.out.alloc hbs _), hP⟩
      case measure => simp [intOf]; omega
    · have hi4 : i = 8 := by omega
      subst hi4
      have hP : p = pf := HP.out
      subst hP
      clear HP hlt hi
      have G3 := (hbw.out.block g3 (by omega)).trans HG.out.1
      have G4 := (hbw.out.block (g3 + 1) (by omega)).trans HG.out.2.1
      have GB : Below w.heap.size w wr := HG.out.2.2.trans (hbw.out.mono HG.out.2.2.size)
      go_wp2_with fail
      obtain ⟨nb, hnb⟩ : ∃ nb, p.size = 64 * nb := ⟨p.size / 64, by have := hsz.out; have := hzB.out; have := hc.out; omega⟩
      obtain ⟨fin, hfin⟩ : ∃ fin, blk p nb 0 H0 = fin := ⟨_, rfl⟩
      have HF : Hid (sumB s = strOfNums (outF fin)) := hid (by rw [sumB, HPF.out, ← hfin, hnb, Nat.mul_div_cancel_left nb (by omega : 0 < 64)])
      rw [hh0.out] at hfin
      replace hfin := hid hfin
      have hpsz : p.size ≤ 1000200 := by have := hsz.out; omega
      replace hnb := hid hnb
      go_loopw [7] (fun v7 wr => ∃ (j a : Nat) (h : List Int), v7 = .int .i64 (a : Int) ∧ Hid (a = 64 * j) ∧ j ≤ nb ∧ h.length = 8 ∧ wr.heap[g3]? = some (.cells (cells h) 36 (0, 0)) ∧ wr.heap[g3 + 1]? = some (.cells (cells k0) 37 (0, 0)) ∧ Hid (Below w.heap.size w wr) ∧ Hid (blk p (nb - j) j h = fin)) (fun v7 _ => p.size - (intOf v7).toNat)
      case atStart => exact ⟨0, 0, h0, rfl, rfl, by omega, hH, G3, G4, GB, hfin⟩
      case round =>
        clear HP8 G3 G4 GB hbw
        obtain ⟨j, a, h, rfl, haj, hj, hl, hc3, hc4, hbw, HP⟩ := hrel
        by_cases hlt : j < nb
        · have ha1 : a + 64 ≤ p.size := by have := haj.out; have := hnb.out; omega
          have ha2 : (a : Int) < (p.size : Int) := by omega
          have ha3 : (a : Int) + 64 ≤ (p.size : Int) := by omega
          have ha4 : (0 : Int) ≤ (a : Int) := by omega
          have ha5 : (0 : Int) ≤ (a : Int) + 64 := by omega
          have ha6 : (a : Int) ≤ (a : Int) + 64 := by omega
          have ha7 : ((a : Int) + 64).toNat = a + 64 := by omega
          have ha8 : IntKind.i64.wrap ((a : Int) + 64) = (a : Int) + 64 := by rw [IntKind.wrap_i64]; omega
          have hP := HP.out
          rw [show nb - j = (nb - (j + 1)) + 1 by omega, blk, ← haj.out, hk0.out] at hP
          replace hP := hid hP
          clear HP
          have hxs : (p.extract a (a + 64)).size = 64 := by rw [ByteArray.size_extract]; omega
          have HM := hid (fun W => mix.calls (p.extract a (a + 64)) k0 h g3 W hxs hK hl)
          have HC := hid (And.intro hc3 hbw)
          clear hc3 hbw
          go_wp2_with fail
          refine start_ (n := 7) (S := fun w' => w'.heap[g3 + 1]? = some (.cells (cells k0) 37 (0, 0)) ∧ w'.heap[g3]? = some (.cells (cells h) 36 (0, 0)) ∧ Below w.heap.size w w') (ds := [6]) #[false, false, false, false, false, false, false] (by kernel_rfl) rfl rfl ⟨hc4, HC.out.1, below_drew1 HC.out.2.out⟩ (fun hHeld => ?_)
          refine pure_ (i := 0) (N := some 48) (v := .string p) (a' := ?_) #[true, false, false, false, false, false, false] rfl rfl (by kernel_rfl) (fun _ _ _ h => h) (Or.inl ⟨by rfl, ?hy⟩) ?ha ?_
          case hy =>
            intro w'
            go_simp
          case ha =>
            simp only [Act.put, List.setIfInBounds_toArray, List.set_cons_zero, List.set_cons_succ, i64_w, i32_w]
            rfl
          refine pure_ (i := 1) (N := some 49) (v := .int .i64 (a : Int)) (a' := ?_) #[true, true, false, false, false, false, false] rfl rfl (by kernel_rfl) (fun _ _ _ h => h) (Or.inl ⟨by rfl, ?hy⟩) ?ha ?_
          case hy =>
            intro w'
            go_simp
          case ha =>
            simp only [Act.put, List.setIfInBounds_toArray, List.set_cons_zero, List.set_cons_succ, i64_w, i32_w]
            rfl
          refine pure_ (i := 2) (N := some 50) (v := .int .i64 (a : Int)) (a' := ?_) #[true, true, true, false, false, false, false] rfl rfl (by kernel_rfl) (fun _ _ _ h => h) (Or.inl ⟨by rfl, ?hy⟩) ?ha ?_
          case hy =>
            intro w'
            go_simp
          case ha =>
            simp only [Act.put, List.setIfInBounds_toArray, List.set_cons_zero, List.set_cons_succ, i64_w, i32_w]
            rfl
          refine pure_ (i := 3) (N := some 51) (v := .int .i64 ((a : Int) + 64)) (a' := ?_) #[true, true, true, true, false, false, false] rfl rfl (by kernel_rfl) (fun _ _ _ h => h) (Or.inl ⟨by rfl, ?hy⟩) ?ha ?_
          case hy =>
            intro w'
            go_simp
          case ha =>
            simp only [Act.put, List.setIfInBounds_toArray, List.set_cons_zero, List.set_cons_succ, i64_w, i32_w]
            rfl
          refine pure_ (i := 4) (N := some 52) (v := .string (p.extract a (a + 64))) (a' := ?_) #[true, true, true, true, true, false, false] rfl rfl (by kernel_rfl) (fun _ _ _ h => h) (Or.inl ⟨by rfl, ?hy⟩) ?ha ?_
          case hy =>
            intro w'
            go_simp
          case ha =>
            simp only [Act.put, List.setIfInBounds_toArray, List.set_cons_zero, List.set_cons_succ, i64_w, i32_w]
            rfl
          refine take_ (i := 5) (N := some 53) (v := .agg (cells k0)) (a' := ?_) #[true, true, true, true, true, true, false] rfl rfl (by kernel_rfl) (fun _ _ _ h => h) (yieldsIf_load_mid rfl 37 (.tmp 4) rfl (g3 + 1) 0 rfl (cells k0).toList _ (fun w' h => cells_range h.1) Try.underlying37 rfl (by rw [Array.length_toList, cells_size, hK]; exact i37)) hHeld ?ha ?_
          case ha =>
            simp only [Act.put, List.setIfInBounds_toArray, List.set_cons_zero, List.set_cons_succ, i64_w, i32_w]
            rfl
          refine last_ (i := 6) (N := some 54) #[true, true, true, true, true, true, true] rfl rfl (by kernel_rfl) (by decide) (fun KK hKK => ?_)
          refine goes_ Try.func25 (by kernel_rfl) rfl #[.pointer (some ⟨g3, 0, none⟩), .string (p.extract a (a + 64)), .agg (cells k0)] (by rfl) rfl rfl (by (try simp only [List.map_toArray, List.map_cons, List.map_nil]); first | done | rfl) ?_
          refine (HM.out _ hHeld.2.1).mono ?_
          rintro e w' ⟨rfl, hg3, hT⟩
          have hn3 : w'.heap[g3 + 1]? = some (.cells (cells k0) 37 (0, 0)) := (hT.2 (g3 + 1) (blk_lt hHeld.1) (by omega)).trans hHeld.1
          have hbn : Below w.heap.size w w' := hHeld.2.2.trans (hT.1.mono hB1)
          have HN := hid (And.intro hg3 (And.intro hn3 hbn))
          have hml : (mixF (p.extract a (a + 64)) k0 h).length = 8 := mixF_len _ _ _ hl
          clear hg3 hn3 hbn hT hHeld hc4 HC
          refine ⟨_, rfl, ?_⟩
          refine hKK.out _ _ ?_
          clear hKK KK
          refine norm_ (a' := ?_) ?_ ?_
          rotate_left
          · show Act.put _ (some 54) _ = _
            simp only [Act.put, List.setIfInBounds_toArray, List.set_cons_zero, List.set_cons_succ, i64_w, i32_w]
            rfl
          refine done_ (by kernel_rfl) ?_
          generalize mixF (p.extract a (a + 64)) k0 h = h2 at *
          clear hxs HM
          go_wp2_with fail
          go_roundw
          case rel => exact ⟨j + 1, a + 64, h2, by go_num, hid (by have := haj.out; omega), by omega, hml, HN.out.1, HN.out.2.1, hid HN.out.2.2, hP⟩
          case measure => simp [intOf]; omega
        · have hj4 : j = nb := by omega
          subst hj4
          have hP : h = fin := by
            have := HP.out
            rw [Nat.sub_self] at this
            exact this
          subst hP
          have hge : ¬ (a : Int) < (p.size : Int) := by have := haj.out; have := hnb.out; omega
          have hr3 := cells_range hc3
          clear HP hlt hj hfin hc4
          go_wp2_with ((with_reducible refine wpList_load_mid rfl 36 (.tmp 3) ?ho g3 0 ?hx (cells h).toList _ hr3 Try.underlying36 ?hd ?hi ?_); (case ho => rfl); (case hx => rfl); (case hd => rfl); (case hi => rw [Array.length_toList, cells_size, hl]; exact i36))
          go_loopw [8, 10, 56] (fun v8 v10 v56 wr => ∃ (i : Nat) (xs : List Int), v56 = .int .i64 (i : Int) ∧ i ≤ 8 ∧ xs.length = 4 * i ∧ Hid (Kd.R (Kd.int .u8) 5 wr w.heap.size (fun _ => True) v8 xs) ∧ Hid (Below w.heap.size w wr) ∧ Hid (xs ++ outF (h.drop i) = outF h)) (fun v8 v10 v56 _ => 8 - (intOf v56).toNat)
          case atStart => exact ⟨0, [], rfl, by decide, rfl, hid (Kd.R_nil _ _ _ _ _), hbw, hid rfl⟩
          case round =>
            clear hbw hc3 hr3
            obtain ⟨i, xs, rfl, hi, hxl, hR, hbw, HP⟩ := hrel
            by_cases hlt : i < 8
            · have hlt2 : (i : Int) < 8 := by omega
              have hix := fun W => idx_cells h hl i hlt W
              have hP : Hid (xs ++ four (h.getD i 0) ++ outF (h.drop (i + 1)) = outF h) := hid (by
                have := HP.out
                rw [List.drop_eq_getElem_cons (by omega)] at this
                rw [← this, List.append_assoc]
                refine congrArg (xs ++ ·) ?_
                rw [show h.getD i 0 = h[i]'(by omega) by rw [List.getD_eq_getElem?_getD, List.getElem?_eq_getElem (by omega)]; rfl]
                rfl)
              have hfl : (four (h.getD i 0)).length = 4 := rfl
              have hfe : four (h.getD i 0) = [h.getD i 0 / 16777216 % 256, h.getD i 0 / 65536 % 256, h.getD i 0 / 256 % 256, h.getD i 0 % 256] := rfl
              replace hfe := hid hfe
              generalize four (h.getD i 0) = ys at *
              generalize h.getD i 0 = x at *
              clear HP
              have hbs := hbw.out.size
              have hrd := reads_new wr ys (by omega)
              rw [hfl, hfe.out] at hrd
              replace hrd := hid hrd
              obtain ⟨Ao, co, eo⟩ := Kd.R_slice hR.out
              subst eo
              go_wp2_with ((with_reducible refine gate_builtin (b := .append) rfl ?_); refine Kd.R_append_rows (Kd.int .u8) (Rr := fun x cs => cs = [Value.int .u8 x]) (w0 := w) w.heap.size (by rfl) (.tmp 59) (.tmp 71) 26 5 (.int .u8 0) 1 rfl Try.underlying26 P.info5 rfl (by decide) (by omega) (.slice Ao xs.length co) xs [x / 16777216 % 256, x / 65536 % 256, x / 256 % 256, x % 256] (some ⟨wr.heap.size, 0, none⟩) 4 4 (fun _ => True) (fun k_ => some k_ ≠ (.slice Ao xs.length co : Value).ownBlock) rfl rfl ?aO ?aR (fun _ _ h => h) (fun _ h => ⟨trivial, h⟩) (fun _ _ => trivial) ?aB ?aS ?aL ?_; (case aO => exact Kd.R_alloc hR.out _); (case aR => exact hrd.out); (case aB => exact hbw.out.alloc hbs _); (case aS => have := hbs; simp; omega); (case aL => omega); intro v9 w9 ho hb hg hat; replace ho := hid ho; replace hb := hid hb; clear hg hat)
              go_roundw
              case rel => exact ⟨i + 1, xs ++ ys, by go_num, by omega, by rw [List.length_append, hfl]; omega, hid (by rw [hfe.out]; exact ho.out), hb, hP⟩
              case measure => simp [intOf]; omega
            · have hi4 : i = 8 := by omega
              subst hi4
              have hP : xs = outF h := by
                have := HP.out
                rw [List.drop_of_length_le (by omega)] at this
                simpa [outF] using this
              subst hP
              obtain ⟨Ao, co, eo⟩ := Kd.R_slice hR.out
              subst eo
              have hcv := own_string (P := Try.prog) Try.underlying26 Try.underlying5 Try.underlying9 (Kd.own_of_R hR.out)
              clear HP hlt hi
              replace hxl := hid hxl
              go_wp2_with fail
              go_ret
              exact ⟨by rw [HF.out]; rfl, hbw.out⟩
theorem btr (x : Int) (h : ∃ s i, bt s i = x) : 0 ≤ x ∧ x ≤ 255 := by
  obtain ⟨s, i, rfl⟩ := h
  exact bt_range s i
def Sum.f (s : ByteArray) : Option ByteArray := if s.size ≤ 1000000 then some (sumB s) else none
theorem Sum.calls (s : ByteArray) (r : ByteArray) (w : World) (h : Sum.f s = some r) :
    Calls Try.prog 12 #[.string s] w fun e w' => e = .returned (.string r) ∧ Below w.heap.size w w' := by
  unfold Sum.f at h
  split at h
  case isFalse => cases h
  rename_i hs
  obtain rfl := Option.some.inj h
  exact Sum.go s w hs
end Go.Proofs.Ytakbdknmfaoppaa.R
