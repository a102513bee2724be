/-
  The walk of (*sha.state).mix.
-/
import Derived.Test.YtakbdknmfaoppaaA2
import Derived.Laws.CopyOwn
import Derived.Deep.QuietTactic
import Derived.BigQuiet
import Derived.Deep.CutRange
import Derived.Deep.DeepCutAuto
namespace Go.Proofs.Ytakbdknmfaoppaa.R
set_option linter.unusedVariables false
set_option linter.unusedSimpArgs false
open Go.RowKit Go.Proofs.YtakbdknmfaoppaaW.PrintWords Go.Proofs.YtakbdknmfaoppaaW.PrintLast Go.Proofs.YtakbdknmfaoppaaW.PrintMore
open Go.Lib (hid)
/-- What is written: one elder block, and new ones. -/
def Touch (w w' : World) (g : Nat) : Prop := Below g w w' ∧ ∀ i, i < w.heap.size → i ≠ g → w'.heap[i]? = w.heap[i]?
def S6 (e : Int) : Int := Go.bits .xor .u32 (Go.bits .xor .u32 (rot e (-6)) (rot e (-11))) (rot e (-25))
def S2 (a : Int) : Int := Go.bits .xor .u32 (Go.bits .xor .u32 (rot a (-2)) (rot a (-13))) (rot a (-22))
def no32 (e : Int) : Int := Go.bits .xor .u32 4294967295 e
def tt (k w e f g h : Int) : Int := ((h + k + w) % 4294967296 + Go.bits .xor .u32 (Go.bits .and .u32 e f) (Go.bits .and .u32 (no32 e) g)) % 4294967296
def tS (k w e f g h : Int) : Int := (tt k w e f g h + S6 e) % 4294967296
def uu (a b c : Int) : Int := Go.bits .xor .u32 (Go.bits .xor .u32 (Go.bits .and .u32 a b) (Go.bits .and .u32 a c)) (Go.bits .and .u32 b c)
def uS (a b c : Int) : Int := (uu a b c + S2 a) % 4294967296
def rnd (k w : Int) : List Int → List Int
  | [a, b, c, d, e, f, g, h] => [(tS k w e f g h + uS a b c) % 4294967296, a, b, c, (d + tS k w e f g h) % 4294967296, e, f, g]
  | v => v
def rF (K ws : List Int) : Nat → Nat → List Int → List Int
  | 0, _, v => v
  | f + 1, i, v => rF K ws f (i + 1) (rnd (K.getD i 0) (ws.getD i 0) v)
def ad (v : List Int) : Nat → Nat → List Int → List Int
  | 0, _, h => h
  | f + 1, i, h => ad v f (i + 1) (h.set i ((h.getD i 0 + v.getD i 0) % 4294967296))
def mixF (b : ByteArray) (K H : List Int) : List Int := ad (rF K (spreadF b) 64 0 H) 8 0 H
theorem Touch.set {w w1 : World} {g : Nat} (h : Touch w w1 g) (j : Nat) (u : Value) : Touch w (w1.setCell ⟨g, j, none⟩ u) g :=
  ⟨h.1.setCell (Nat.le_refl _) u, fun i hi hn => (Below.heap_setCell _ _ _ _ hn).trans (h.2 i hi hn)⟩
theorem Touch.drewN {w w1 : World} {g : Nat} (h : Touch w w1 g) (n : Nat) : Touch w (w1.drewN n) g := ⟨pw_below_drewN h.1 n, h.2⟩
theorem Touch.of {w w1 : World} {g : Nat} (h : Below w.heap.size w w1) (hg : g ≤ w.heap.size) : Touch w w1 g := ⟨h.mono hg, fun i hi _ => h.block i hi⟩
theorem dr1 {w w' : World} (h : Drawn0 w w') : Drawn0 w w'.drew := h.step 1
theorem spreadF_len (b : ByteArray) : (spreadF b).length = 64 := by
  have h1 : ∀ f k xs, (sp1 b f k xs).length = xs.length := by
    intro f
    induction f with
    | zero => intro k xs; rfl
    | succ f ih => intro k xs; rw [sp1, ih, st1_len]
  have h2 : ∀ f k xs, (sp2 f k xs).length = xs.length := by
    intro f
    induction f with
    | zero => intro k xs; rfl
    | succ f ih => intro k xs; rw [sp2, ih, st2_len]
  unfold spreadF
  rw [h2, h1, List.length_replicate]
set_option maxHeartbeats 2000000 in
set_option maxRecDepth 100000 in
theorem mix.calls (b : ByteArray) (K H : List Int) (g0 : Nat) (w : World) (hb : b.size = 64) (hK : K.length = 64) (hH : H.length = 8) (h0 : w.heap[g0]? = some (.cells (cells H) 36 (0, 0))) :
    Calls Try.prog 25 #[.pointer (some ⟨g0, 0, none⟩), .string b, .agg (cells K)] w fun e w' => e = .returned (.tuple #[]) ∧ w'.heap[g0]? = some (.cells (cells (mixF b K H)) 36 (0, 0)) ∧ Touch w w' g0 := by
  obtain ⟨ws, hws⟩ : ∃ ws, spreadF b = ws := ⟨_, rfl⟩
  have hwl : ws.length = 64 := by rw [← hws]; exact spreadF_len b
  have HS := hid (fun W => spread.calls b W hb)
  rw [hws] at HS
  have i36 : (Try.prog.info? 36).map (·.size) = some 8 := by kernel_rfl
  have i37 : (Try.prog.info? 37).map (·.size) = some 64 := by kernel_rfl
  have hsz2 : (cells ws).size = 64 := by rw [cells_size]; exact hwl
  have h1w := cells_one ws
  go_enter Try.func25, Try.ntmps25
  go_wp2_with fail
  refine (HS.out _).mono ?_
  rintro e w1 ⟨rfl, hB⟩
  have ht6 : (w1.alloc (.cells (cells (List.replicate 64 0)) 37)).there w1.heap.size 0 (cells ws).size := by
    have := cells_there (blk_new w1 (.cells (cells (List.replicate 64 0)) 37))
    rw [cells_size] at this
    rw [hsz2]
    exact this
  go_wp2_with ((with_reducible refine wpList_store_mid rfl 37 (.tmp 6) (.tmp 15) ?ho w1.heap.size 0 (cells ws) ?hx ?hy ?ht ?hi h1w ?_); (case ho => rfl); (case hx => rfl); (case hy => rfl); (case hi => rw [hsz2]; exact i37); (case ht => exact ht6); refine Hid.out ?_)
  have hk5 : w1.heap[w.heap.size]? = some (.cells (cells K) 37 (0, 0)) := (hB.block w.heap.size (by simp)).trans (blk_new w _)
  have hh5 : w1.heap[g0]? = some (.cells (cells H) 36 (0, 0)) := (hB.block g0 (by have := blk_lt h0; simp; omega)).trans (blk_alloc h0 _)
  have hb1 : Below w.heap.size w w1 := below_then ((Below.refl _ _).alloc (Nat.le_refl _) _) (by simp) hB
  have hs1 : w.heap.size < w1.heap.size := by have := hB.size; simp at this; omega
  change Hid (wpList Try.prog _ _ [] _ ((w1.alloc (.cells (cells (List.replicate 64 0)) 37)).setCells w1.heap.size 0 (cells ws).toList))
  have F6 := setCells_whole (blk_new w1 (.cells (cells (List.replicate 64 0)) 37)) (cells ws) (by rw [cells_size, cells_size, hwl]; rfl)
  have F5 := (far_cells (g := w.heap.size) (b := w1.heap.size) (by omega) (cells ws).toList 0 _).trans (blk_alloc hk5 (.cells (cells (List.replicate 64 0)) 37))
  have F0 := (far_cells (g := g0) (b := w1.heap.size) (by have := blk_lt hh5; omega) (cells ws).toList 0 _).trans (blk_alloc hh5 (.cells (cells (List.replicate 64 0)) 37))
  have FB := below_setCells (g := w1.heap.size) (by omega) (cells ws).toList 0 _ (hb1.alloc (by omega) (.cells (cells (List.replicate 64 0)) 37))
  have FK : ∀ i, i < w.heap.size → i ≠ g0 → True := fun _ _ _ => trivial
  obtain ⟨W6, hW6⟩ : ∃ W6, (w1.alloc (.cells (cells (List.replicate 64 0)) 37)).setCells w1.heap.size 0 (cells ws).toList = W6 := ⟨_, rfl⟩
  rw [hW6] at F6 F5 F0 FB ⊢
  clear hW6
  have hs6 : w1.heap.size < W6.heap.size := blk_lt F6
  generalize w1.heap.size = g6 at *
  clear hb1 hB hk5 hh5 ht6 FK HS
  have hr0 := cells_range F0
  have ht7 : (W6.alloc (.cells (cells (List.replicate 8 0)) 36)).there W6.heap.size 0 (cells H).size := by
    have := cells_there (blk_new W6 (.cells (cells (List.replicate 8 0)) 36))
    rw [cells_size] at this
    rw [cells_size, hH]
    exact this
  have h1h := cells_one H
  refine hid ?_
  go_wp2_with (first | ((with_reducible refine wpList_load_mid rfl 36 (.tmp 17) ?ho g0 0 ?hx (cells H).toList _ hr0 Try.underlying36 ?hd ?hi ?_); (case ho => rfl); (case hx => rfl); (case hd => rfl); (case hi => rw [Array.length_toList, cells_size, hH]; exact i36)) | ((with_reducible refine wpList_store_mid rfl 36 (.tmp 7) (.tmp 18) ?ho W6.heap.size 0 (cells H) ?hx ?hy ?ht ?hi h1h ?_); (case ho => rfl); (case hx => rfl); (case hy => rfl); (case hi => rw [cells_size, hH]; exact i36); (case ht => exact ht7); refine Hid.out ?_))
  change Hid (wpList Try.prog _ _ [] _ ((W6.alloc (.cells (cells (List.replicate 8 0)) 36)).setCells W6.heap.size 0 (cells H).toList))
  have G7 := setCells_whole (blk_new W6 (.cells (cells (List.replicate 8 0)) 36)) (cells H) (by rw [cells_size, cells_size, hH]; rfl)
  have G6 := (far_cells (g := g6) (b := W6.heap.size) (by omega) (cells H).toList 0 _).trans (blk_alloc F6 (.cells (cells (List.replicate 8 0)) 36))
  have G5 := (far_cells (g := w.heap.size) (b := W6.heap.size) (by omega) (cells H).toList 0 _).trans (blk_alloc F5 (.cells (cells (List.replicate 8 0)) 36))
  have G0 := (far_cells (g := g0) (b := W6.heap.size) (by have := blk_lt F0; omega) (cells H).toList 0 _).trans (blk_alloc F0 (.cells (cells (List.replicate 8 0)) 36))
  have GB := below_setCells (g := W6.heap.size) (by omega) (cells H).toList 0 _ (FB.alloc (by omega) (.cells (cells (List.replicate 8 0)) 36))
  obtain ⟨W7, hW7⟩ : ∃ W7, (W6.alloc (.cells (cells (List.replicate 8 0)) 36)).setCells W6.heap.size 0 (cells H).toList = W7 := ⟨_, rfl⟩
  rw [hW7] at G7 G6 G5 G0 GB ⊢
  clear hW7
  have hlt0 : g0 < w.heap.size := blk_lt h0
  generalize W6.heap.size = g7 at *
  clear F0 F5 F6 FB hr0 ht7 W6
  obtain ⟨h1, h2, h3, h4, h5, h6, h7, h8, rfl⟩ : ∃ h1 h2 h3 h4 h5 h6 h7 h8, H = [h1, h2, h3, h4, h5, h6, h7, h8] := by
    match H, hH with
    | [h1, h2, h3, h4, h5, h6, h7, h8], _ => exact ⟨_, _, _, _, _, _, _, _, rfl⟩
  have HG := hid (And.intro G6 (And.intro G5 (And.intro G0 GB)))
  clear G6 G5 G0 GB h0
  obtain ⟨vs, hvs⟩ : ∃ vs, rF K ws 64 0 [h1, h2, h3, h4, h5, h6, h7, h8] = vs := ⟨_, rfl⟩
  have HV := hid hvs
  clear hvs
  refine hid ?_
  go_wp2_with fail
  go_loopw [8, 9, 10, 11, 12, 19] (fun v8 v9 v10 v11 v12 v19 wr => ∃ (i : Nat) (a b c d e f g h : Int), v19 = .int .i64 (i : Int) ∧ i ≤ 64 ∧ wr.heap[g7]? = some (.cells (cells [a, b, c, d, e, f, g, h]) 36 (0, 0)) ∧ Below g7 W7 wr ∧ Hid (rF K ws (64 - i) i [a, b, c, d, e, f, g, h] = vs)) (fun v8 v9 v10 v11 v12 v19 _ => 64 - (intOf v19).toNat)
  case atStart => exact ⟨0, h1, h2, h3, h4, h5, h6, h7, h8, rfl, by decide, G7, Below.refl _ _, HV⟩
  case round =>
    obtain ⟨i, a, b', c, d, e, f, g, h, rfl, hi, hc, hbw, HP⟩ := hrel
    by_cases hlt : i < 64
    · have hlt2 : (i : Int) < 64 := by omega
      have c0 : wr.cell? ⟨g7, 0, none⟩ = some (.int .u32 a) := (blk_cell hc 0).trans rfl
      have c1 : wr.cell? ⟨g7, 1, none⟩ = some (.int .u32 b') := (blk_cell hc 1).trans rfl
      have c2 : wr.cell? ⟨g7, 2, none⟩ = some (.int .u32 c) := (blk_cell hc 2).trans rfl
      have c3 : wr.cell? ⟨g7, 3, none⟩ = some (.int .u32 d) := (blk_cell hc 3).trans rfl
      have c4 : wr.cell? ⟨g7, 4, none⟩ = some (.int .u32 e) := (blk_cell hc 4).trans rfl
      have c5 : wr.cell? ⟨g7, 5, none⟩ = some (.int .u32 f) := (blk_cell hc 5).trans rfl
      have c6 : wr.cell? ⟨g7, 6, none⟩ = some (.int .u32 g) := (blk_cell hc 6).trans rfl
      have c7 : wr.cell? ⟨g7, 7, none⟩ = some (.int .u32 h) := (blk_cell hc 7).trans rfl
      have cw : wr.cell? ⟨g6, i, none⟩ = some (.int .u32 (ws.getD i 0)) := (blk_cell ((hbw.block g6 (by omega)).trans HG.out.1) i).trans (cells_at ws i (by omega))
      have ck : wr.cell? ⟨w.heap.size, i, none⟩ = some (.int .u32 (K.getD i 0)) := (blk_cell ((hbw.block w.heap.size (by omega)).trans HG.out.2.1) i).trans (cells_at K i (by omega))
      have e5 : (0 : Int) ≤ (i : Int) := by omega
      have hP := HP.out
      rw [show 64 - i = (64 - (i + 1)) + 1 by omega, rF] at hP
      have hP := hid hP
      clear HP
      have HC := hid (And.intro hc hbw)
      clear hc hbw
      generalize K.getD i 0 = ki at *
      generalize ws.getD i 0 = wi at *
      have r6 := hid (fun x W => rot_calls x (-6) (by decide) (by decide) W)
      have r11 := hid (fun x W => rot_calls x (-11) (by decide) (by decide) W)
      have r25 := hid (fun x W => rot_calls x (-25) (by decide) (by decide) W)
      have r2 := hid (fun x W => rot_calls x (-2) (by decide) (by decide) W)
      have r13 := hid (fun x W => rot_calls x (-13) (by decide) (by decide) W)
      have r22 := hid (fun x W => rot_calls x (-22) (by decide) (by decide) W)
      have hne : (if IntKind.u32.signed = true then (-1 : Int) else IntKind.u32.max) = 4294967295 := by decide
      go_upto_region 6 with fail
      go_cut [9, 10, 19] from 19 to 94 (fun s9 s10 s19 wx => s9 = .int .u32 a ∧ s10 = .int .u32 e ∧ s19 = .int .i64 (i : Int) ∧ Drawn0 wr wx)
      case first =>
        go_region
        all_goals (go_wp2_with fail; go_meet; exact ⟨rfl, rfl, rfl, by repeat (first | exact Drawn0.refl _ | (with_reducible apply dr1) | (with_reducible apply Drawn0.step))⟩)
      case rest =>
      obtain ⟨rfl, rfl, rfl, ⟨n0, rfl⟩⟩ := hcut
      go_upto_region 7 with fail
      go_cut [11, 19] from 19 to 94 (fun s11 s19 wx => s11 = .int .u32 (tt ki wi e f g h) ∧ s19 = .int .i64 (i : Int) ∧ Drawn0 wr wx)
      case first =>
        go_quiet (fail)
        obtain ⟨T, hT⟩ : ∃ T, tt ki wi e f g h = T := ⟨_, rfl⟩
        have hT2 : ((h + ki + wi) % 4294967296 + Go.bits .xor .u32 (Go.bits .and .u32 e f) (Go.bits .and .u32 (Go.bits .xor .u32 4294967295 e) g)) % 4294967296 = T := hT
        simp only [hT2]
        replace hT := hid hT
        clear hT2
        generalize Go.bits BinOp.xor IntKind.u32 4294967295 e = q1
        generalize Go.bits BinOp.and IntKind.u32 q1 g = q2
        generalize Go.bits BinOp.and IntKind.u32 e f = q3
        generalize Go.bits BinOp.xor IntKind.u32 q3 q2 = q4
        go_wp2_with fail
        go_meet
        exact ⟨congrArg _ hT.out.symm, rfl, by repeat (first | exact Drawn0.refl _ | (with_reducible apply dr1) | (with_reducible apply Drawn0.step))⟩
      case rest =>
      obtain ⟨rfl, rfl, ⟨n1, rfl⟩⟩ := hcut
      go_upto_region 8 with fail
      go_cut [11, 19] from 19 to 94 (fun s11 s19 wx => s11 = .int .u32 (tS ki wi e f g h) ∧ s19 = .int .i64 (i : Int) ∧ Drawn0 wr wx)
      case first =>
        go_wp2_with fail
        refine (r6.out _ _).mono ?_
        rintro e1 w1 ⟨rfl, ⟨m1, rfl⟩⟩
        go_wp2_with fail
        refine (r11.out _ _).mono ?_
        rintro e1 w1 ⟨rfl, ⟨m2, rfl⟩⟩
        go_wp2_with fail
        refine (r25.out _ _).mono ?_
        rintro e1 w1 ⟨rfl, ⟨m3, rfl⟩⟩
        go_wp2_with fail
        go_meet
        exact ⟨rfl, rfl, by repeat (first | exact Drawn0.refl _ | (with_reducible apply dr1) | (with_reducible apply Drawn0.step))⟩
      case rest =>
      obtain ⟨rfl, rfl, ⟨n2, rfl⟩⟩ := hcut
      go_upto_region 9 with fail
      go_cut [12, 19] from 19 to 94 (fun s12 s19 wx => s12 = .int .u32 (uu a b' c) ∧ s19 = .int .i64 (i : Int) ∧ Drawn0 wr wx)
      case first =>
        go_wp2_with fail
        go_meet
        exact ⟨rfl, rfl, by repeat (first | exact Drawn0.refl _ | (with_reducible apply dr1) | (with_reducible apply Drawn0.step))⟩
      case rest =>
      obtain ⟨rfl, rfl, ⟨n3, rfl⟩⟩ := hcut
      go_upto_region 10 with fail
      go_cut [12, 19] from 19 to 94 (fun s12 s19 wx => s12 = .int .u32 (uS a b' c) ∧ s19 = .int .i64 (i : Int) ∧ Drawn0 wr wx)
      case first =>
        go_wp2_with fail
        refine (r2.out _ _).mono ?_
        rintro e1 w1 ⟨rfl, ⟨m1, rfl⟩⟩
        go_wp2_with fail
        refine (r13.out _ _).mono ?_
        rintro e1 w1 ⟨rfl, ⟨m2, rfl⟩⟩
        go_wp2_with fail
        refine (r22.out _ _).mono ?_
        rintro e1 w1 ⟨rfl, ⟨m3, rfl⟩⟩
        go_wp2_with fail
        go_meet
        exact ⟨rfl, rfl, by repeat (first | exact Drawn0.refl _ | (with_reducible apply dr1) | (with_reducible apply Drawn0.step))⟩
      case rest =>
      obtain ⟨rfl, rfl, ⟨n4, rfl⟩⟩ := hcut
      go_upto_region 11 with fail
      clear c0 c1 c2 c3 c4 c5 c6 c7 cw ck r6 r11 r25 r2 r13 r22
      obtain ⟨t, ht⟩ : ∃ t, tS ki wi e f g h = t := ⟨_, rfl⟩
      obtain ⟨u, hu⟩ : ∃ u, uS a b' c = u := ⟨_, rfl⟩
      have hP2 : Hid (rF K ws (64 - (i + 1)) (i + 1) [(t + u) % 4294967296, a, b', c, (d + t) % 4294967296, e, f, g] = vs) := hid (by
        have := hP.out
        rw [rnd, ht, hu] at this
        exact this)
      rw [ht, hu]
      clear hP ht hu
      refine start_ (n := 3) (S := fun _ => True) (ds := [2]) #[false, false, false] (by kernel_rfl) rfl rfl trivial (fun _ => ?_)
      refine pure_ (i := 0) (N := some 82) (v := .slice (some ⟨g7, 1, none⟩) 7 7) (a' := ?_) #[true, false, false] rfl rfl (by kernel_rfl) (fun _ _ _ h => h) (Or.inl ⟨by rfl, ?hy⟩) ?ha ?_
      case hy =>
        intro w'
        go_simp
      case ha =>
        simp only [Act.put, List.setIfInBounds_toArray, List.set_cons_zero, List.set_cons_succ, i64_w, i32_w]
        rfl
      refine pure_ (i := 1) (N := some 83) (v := .slice (some ⟨g7, 0, none⟩) 7 8) (a' := ?_) #[true, true, false] rfl rfl (by kernel_rfl) (fun _ _ _ h => h) (Or.inl ⟨by rfl, ?hy⟩) ?ha ?_
      case hy =>
        intro w'
        go_simp
      case ha =>
        simp only [Act.put, List.setIfInBounds_toArray, List.set_cons_zero, List.set_cons_succ, i64_w, i32_w]
        rfl
      refine last_ (i := 2) (N := some 84) #[true, true, true] rfl rfl (by kernel_rfl) (by decide) (fun KK hKK => ?_)
      refine step_copy_splice rfl (.tmp 82) (.tmp 83) 44 44 rfl 34 Try.underlying44 (by kernel_rfl) (some ⟨g7, 1, none⟩) (some ⟨g7, 0, none⟩) 7 7 7 8 rfl rfl g7 1 ([a, b', c, d, e, f, g, h].map (Value.int .u32)) 36 HC.out.1 ([a, b', c, d, e, f, g].map (Value.int .u32)) rfl (fun _ => ⟨rfl, ⟨g7, 0, none⟩, rfl, ?_⟩) (by simp) ?_ g7 W7 (pw_below_drewN HC.out.2 (n4 + 1)) (Nat.le_refl _) (fun wx hx hbx => ?_)
      · intro j v hv
        have hj : j < 7 := by have := (List.getElem?_eq_some_iff.1 hv).1; simpa using this
        rw [add_plain]
        refine (blk_cell (w := (wr.drewN n4).drew) HC.out.1 j).trans ?_
        rw [← hv]
        match j, hj with
        | 0, _ => rfl
        | 1, _ => rfl
        | 2, _ => rfl
        | 3, _ => rfl
        | 4, _ => rfl
        | 5, _ => rfl
        | 6, _ => rfl
      · intro v hv
        obtain ⟨x, _, rfl⟩ := List.mem_map.1 hv
        rfl
      refine hKK.out _ _ ?_
      clear hKK KK
      have hx2 : wx.heap[g7]? = some (.cells (cells [a, a, b', c, d, e, f, g]) 36 (0, 0)) := hx
      clear hx
      refine norm_ (a' := ?_) ?_ ?_
      rotate_left
      · show Act.put _ (some 84) _ = _
        simp only [Act.put, List.setIfInBounds_toArray, List.set_cons_zero, List.set_cons_succ, i64_w, i32_w]
        rfl
      refine done_ (by kernel_rfl) ?_
      have c0 : wx.cell? ⟨g7, 0, none⟩ = some (.int .u32 a) := (blk_cell hx2 0).trans rfl
      have c4 : wx.cell? ⟨g7, 4, none⟩ = some (.int .u32 d) := (blk_cell hx2 4).trans rfl
      have f0 := blk_frozen hx2 0
      have f4 := blk_frozen hx2 4
      have HX := hid (And.intro hx2 hbx)
      clear hx2 hbx HC
      go_wp2_with fail
      go_roundw
      case rel => exact ⟨i + 1, (t + u) % 4294967296, a, b', c, (d + t) % 4294967296, e, f, g, by go_num, by omega, blk_set (blk_set HX.out.1 0 (.int .u32 ((t + u) % 4294967296))) 4 (.int .u32 ((d + t) % 4294967296)), (HX.out.2.setCell (p := ⟨g7, 0, none⟩) (Nat.le_refl _) _).setCell (p := ⟨g7, 4, none⟩) (Nat.le_refl _) _, hP2⟩
      case measure => simp [intOf]; omega
    · have hi4 : i = 64 := by omega
      subst hi4
      have hP : [a, b', c, d, e, f, g, h] = vs := HP.out
      subst hP
      have hbB : Below w.heap.size w wr := HG.out.2.2.2.trans (hbw.mono (by omega))
      have hT := Touch.of hbB (Nat.le_of_lt hlt0)
      have hg0 : wr.heap[g0]? = some (.cells (cells [h1, h2, h3, h4, h5, h6, h7, h8]) 36 (0, 0)) := (hbw.block g0 (by omega)).trans HG.out.2.2.1
      have HZ : Hid (ad [a, b', c, d, e, f, g, h] 8 0 [h1, h2, h3, h4, h5, h6, h7, h8] = mixF b K [h1, h2, h3, h4, h5, h6, h7, h8]) := hid (by unfold mixF; rw [hws, HV.out])
      obtain ⟨fin, hfin⟩ : ∃ fin, mixF b K [h1, h2, h3, h4, h5, h6, h7, h8] = fin := ⟨_, rfl⟩
      rw [hfin] at HZ
      have HF := hid hfin
      clear hfin
      obtain ⟨vs, hvs⟩ : ∃ vs, [a, b', c, d, e, f, g, h] = vs := ⟨_, rfl⟩
      have hvl : vs.length = 8 := by rw [← hvs]; rfl
      rw [hvs] at HZ hc
      clear HP hlt hi hbw hbB HV hvs
      go_wp2_with fail
      go_loopw [13, 95] (fun v13 v95 wr => ∃ (i : Nat) (hs : List Int), v95 = .int .i64 (i : Int) ∧ i ≤ 8 ∧ hs.length = 8 ∧ wr.heap[g0]? = some (.cells (cells hs) 36 (0, 0)) ∧ wr.heap[g7]? = some (.cells (cells vs) 36 (0, 0)) ∧ Hid (Touch w wr g0) ∧ Hid (ad vs (8 - i) i hs = fin)) (fun v13 v95 _ => 8 - (intOf v95).toNat)
      case atStart => exact ⟨0, [h1, h2, h3, h4, h5, h6, h7, h8], rfl, by decide, rfl, hg0, hc, hid hT, HZ⟩
      case round =>
        obtain ⟨i, hs, rfl, hi, hl, hc0, hc7, HT, HP⟩ := hrel
        by_cases hlt : i < 8
        · have hlt2 : (i : Int) < 8 := by omega
          have e5 : (0 : Int) ≤ (i : Int) := by omega
          have c0 : wr.cell? ⟨g0, i, none⟩ = some (.int .u32 (hs.getD i 0)) := (blk_cell hc0 i).trans (cells_at hs i (by omega))
          have f0 := blk_frozen hc0 i
          have c7 : wr.cell? ⟨g7, i, none⟩ = some (.int .u32 (vs.getD i 0)) := (blk_cell hc7 i).trans (cells_at vs i (by omega))
          have hP := HP.out
          rw [show 8 - i = (8 - (i + 1)) + 1 by omega, ad] at hP
          have hP := hid hP
          have HC := hid (And.intro hc0 hc7)
          clear hc0 hc7 HP
          have hs2l : (hs.set i ((hs.getD i 0 + vs.getD i 0) % 4294967296)).length = 8 := by simpa using hl
          have hst := hid (cells_set hs i ((hs.getD i 0 + vs.getD i 0) % 4294967296))
          generalize hs.set i ((hs.getD i 0 + vs.getD i 0) % 4294967296) = hs2 at *
          generalize hs.getD i 0 = x at *
          generalize vs.getD i 0 = y at *
          go_wp2_with fail
          go_region
          go_wp2_with fail
          go_roundw
          case rel => exact ⟨i + 1, hs2, by go_num, by omega, hs2l, by rw [← hst.out]; exact blk_set HC.out.1 i _, blk_far HC.out.2 (p := ⟨g0, i, none⟩) (by simp; omega) _, hid ((HT.out.set i _).drewN 1), hP⟩
          case measure => simp [intOf]; omega
        · have hi4 : i = 8 := by omega
          subst hi4
          have hP : hs = fin := HP.out
          subst hP
          have HC := hid (And.intro hc0 HT.out)
          clear HP hlt hi hc0
          go_wp2_with fail
          go_end0
          exact ⟨rfl, by rw [HF.out]; exact HC.out.1, HC.out.2⟩
end Go.Proofs.Ytakbdknmfaoppaa.R
