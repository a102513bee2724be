/-
  The walk of sha.spread.
-/
import Derived.Test.YtakbdknmfaoppaaPx1
import Derived.Test.YtakbdknmfaoppaaProg
import Derived.Test.YtakbdknmfaoppaaS0
import Derived.Lib.Hide
import Derived.WalkKit
import Derived.WalkSpells
import Derived.WalkLawsBesides
import Derived.RegionTactic
import Derived.ChangeAlike
import Derived.BigRegion
import Derived.Handy
import Derived.Lib.SmallJoins
import Derived.Lib.OthersKept
import Derived.Deep.MidRow
import Derived.Deep.RegionHeld3
import Derived.Deep.DrawnRows
namespace Go.Proofs.Ytakbdknmfaoppaa.R
set_option linter.unusedVariables false
set_option linter.unusedSimpArgs false
open Go.RowKit Go.Proofs.YtakbdknmfaoppaaW.PrintWords Go.Proofs.YtakbdknmfaoppaaW.PrintLast Go.Proofs.YtakbdknmfaoppaaW.PrintMore
open Go.Lib (hid)
def cells (xs : List Int) : Array Value := (xs.map (Value.int .u32)).toArray
theorem cells_at (xs : List Int) (i : Nat) (h : i < xs.length) : (cells xs)[i]? = some (.int .u32 (xs.getD i 0)) := by simp [cells, h]
theorem cells_set (xs : List Int) (i : Nat) (v : Int) : (cells xs).setIfInBounds i (.int .u32 v) = cells (xs.set i v) := by simp [cells, List.map_set]
theorem bt_nat (s : ByteArray) (i : Nat) (h : i < s.size) : bt s (i : Int) = ((s[i]'h).toNat : Int) := by simp [bt, h]
def rot (x n : Int) : Int := (P.bits_RotateLeft32.f x n).getD 0
theorem rot_eq (x n : Int) (h : 0 ≤ Go.bits .and .u64 (IntKind.u64.wrap n) 31) (h2 : 0 ≤ IntKind.u64.wrap (32 - Go.bits .and .u64 (IntKind.u64.wrap n) 31)) : P.bits_RotateLeft32.f x n = some (rot x n) := by
  unfold rot P.bits_RotateLeft32.f
  rw [if_pos h, if_pos h2]
  rfl
theorem rot_calls (x n : Int) (h : 0 ≤ Go.bits .and .u64 (IntKind.u64.wrap n) 31) (h2 : 0 ≤ IntKind.u64.wrap (32 - Go.bits .and .u64 (IntKind.u64.wrap n) 31)) (w : World) :
    Calls Try.prog 43 #[.int .u32 x, .int .i64 n] w fun e w' => e = .returned (.int .u32 (rot x n)) ∧ Drawn0 w w' := P.bits_RotateLeft32.calls x n _ w (rot_eq x n h h2)
theorem set_at {w : World} {g t : Nat} {xs : List Int} (h : w.heap[g]? = some (.cells (cells xs) t (0, 0))) (k : Nat) (hk : k < xs.length) (v : Int) : (w.setCell ⟨g, k, none⟩ (.int .u32 v)).cell? ⟨g, k, none⟩ = some (.int .u32 v) := by
  rw [blk_cell (blk_set h k _) k, cells_set, cells_at _ k (by rw [List.length_set]; exact hk)]
  simp [hk]
theorem reg_cut {P : Program} {c : Code} {a : Act} {w : World} {Q : Exit → Act → World → Prop} {A : Act} {W : Nat → World} (h1 : ∀ Q' : Exit → Act → World → Prop, (∀ n, Q' .normal A (W n)) → Code.wp P c Q' a w) (h2 : ∀ n, Q .normal A (W n)) : Code.wp P c Q a w := h1 Q h2
theorem u32w (n : Int) : IntKind.u32.wrap n = n % 4294967296 := by simp [IntKind.wrap, IntKind.signed, IntKind.bits]
section
variable {P : Program}
theorem results_c1 {fn : Func} {p : Tmp} {ty : TypeId} (h : fn.results = #[.cell p ty]) (tmps : Array Value) (w : World) (g : Nat) (t : TypeId) (cs : Array Value) (fr : Nat × Nat) (d : TypeDesc)
    (hp : tmps.getD p undef = .pointer (some ⟨g, 0, none⟩)) (hg : w.heap[g]? = some (.cells cs t fr))
    (hu : P.underlying ty = some d) (hd : (match d with | .struct _ | .array _ _ => true | _ => false) = true) (hi : (P.info? ty).map (·.size) = some cs.size) :
    (results fn tmps).run P w = .ok (.agg cs) w := by
  have hp' : tmps[p]?.getD undef = .pointer (some ⟨g, 0, none⟩) := by simpa using hp
  simp [results, h, hp', asAddr, run_loadVar_row w g t ty cs fr d hg hu hd hi]
theorem results_c2 {fn : Func} {p q : Tmp} {ty tz : TypeId} (h : fn.results = #[.cell p ty, .cell q tz]) (tmps : Array Value) (w : World) (g g2 : Nat) (t t2 : TypeId) (cs cs2 : Array Value) (fr fr2 : Nat × Nat) (d d2 : TypeDesc)
    (hp : tmps.getD p undef = .pointer (some ⟨g, 0, none⟩)) (hg : w.heap[g]? = some (.cells cs t fr)) (hq : tmps.getD q undef = .pointer (some ⟨g2, 0, none⟩)) (hg2 : w.heap[g2]? = some (.cells cs2 t2 fr2))
    (hu : P.underlying ty = some d) (hd : (match d with | .struct _ | .array _ _ => true | _ => false) = true) (hi : (P.info? ty).map (·.size) = some cs.size)
    (hu2 : P.underlying tz = some d2) (hd2 : (match d2 with | .struct _ | .array _ _ => true | _ => false) = true) (hi2 : (P.info? tz).map (·.size) = some cs2.size) :
    (results fn tmps).run P w = .ok (.tuple #[.agg cs, .agg cs2]) w := by
  have hp' : tmps[p]?.getD undef = .pointer (some ⟨g, 0, none⟩) := by simpa using hp
  have hq' : tmps[q]?.getD undef = .pointer (some ⟨g2, 0, none⟩) := by simpa using hq
  simp [results, h, hp', hq', asAddr, run_loadVar_row w g t ty cs fr d hg hu hd hi, run_loadVar_row w g2 t2 tz cs2 fr2 d2 hg2 hu2 hd2 hi2]
end
theorem setCells_block : ∀ (vs pre old suf : List Value) (w : World) (g t : Nat), w.heap[g]? = some (.cells (pre ++ old ++ suf).toArray t (0, 0)) → old.length = vs.length → (w.setCells g pre.length vs).heap[g]? = some (.cells (pre ++ vs ++ suf).toArray t (0, 0))
  | [], pre, old, suf, w, g, t, h, hl => by
    rw [List.eq_nil_of_length_eq_zero hl] at h
    exact h
  | v :: vs, pre, [], suf, w, g, t, h, hl => by simp at hl
  | v :: vs, pre, o :: old, suf, w, g, t, h, hl => by
    have h1 := blk_set h pre.length v
    have e : (pre ++ (o :: old) ++ suf).toArray.setIfInBounds pre.length v = ((pre ++ [v]) ++ old ++ suf).toArray := by
      rw [List.setIfInBounds_toArray]
      simp
    rw [e] at h1
    have := setCells_block vs (pre ++ [v]) old suf (w.setCell ⟨g, pre.length, none⟩ v) g t h1 (by simpa using hl)
    rw [List.length_append, List.length_singleton] at this
    rw [World.setCells, this]
    simp
theorem setCells_whole {w : World} {g t : Nat} {C : Array Value} (h : w.heap[g]? = some (.cells C t (0, 0))) (D : Array Value) (hl : D.size = C.size) : (w.setCells g 0 D.toList).heap[g]? = some (.cells D t (0, 0)) := by
  have := setCells_block D.toList [] C.toList [] w g t (by simpa using h) (by simpa using hl.symm)
  simpa using this
theorem below_setCells {w : World} {B g : Nat} (hg : B ≤ g) : ∀ (vs : List Value) (o : Nat) (w1 : World), Below B w w1 → Below B w (w1.setCells g o vs)
  | [], o, w1, h => h
  | v :: vs, o, w1, h => below_setCells hg vs (o + 1) _ (h.setCell (p := ⟨g, o, none⟩) hg v)
theorem cells_size (xs : List Int) : (cells xs).size = xs.length := by simp [cells]
theorem cells_one (xs : List Int) : (cells xs).all (·.oneCell') = true := by
  rw [Array.all_eq_true_iff_forall_mem]
  intro v hv
  simp [cells] at hv
  obtain ⟨a, _, rfl⟩ := hv
  rfl
theorem cells_range {w : World} {g t : Nat} {xs : List Int} (h : w.heap[g]? = some (.cells (cells xs) t (0, 0))) : w.rangeAt g 0 (cells xs).toList := fun j v hv => by
  rw [Nat.zero_add, blk_cell h j]
  simpa using hv
theorem cells_there {w : World} {g t : Nat} {C : Array Value} (h : w.heap[g]? = some (.cells C t (0, 0))) : w.there g 0 C.size := fun j hj => by
  rw [Nat.zero_add, blk_cell h j]
  exact ⟨by simp [hj], blk_frozen h j⟩
def st1 (b : ByteArray) (k : Nat) (xs : List Int) : List Int := xs.set (k / 4) (Go.bits .or .u32 (xs.getD (k / 4) 0 * 256 % 4294967296) (bt b k % 4294967296))
def sp1 (b : ByteArray) : Nat → Nat → List Int → List Int
  | 0, _, xs => xs
  | f + 1, k, xs => sp1 b f (k + 1) (st1 b k xs)
def sig0 (x : Int) : Int := Go.bits .xor .u32 (Go.bits .xor .u32 (rot x (-7)) (rot x (-18))) (x / 8)
def sig1 (x : Int) : Int := Go.bits .xor .u32 (Go.bits .xor .u32 (rot x (-17)) (rot x (-19))) (x / 1024)
def va (k : Nat) (xs : List Int) : Int := (xs.getD (k - 16) 0 + xs.getD (k - 7) 0) % 4294967296
def st2 (k : Nat) (xs : List Int) : List Int := xs.set k (IntKind.u32.wrap (IntKind.u32.wrap (va k xs + sig0 (xs.getD (k - 15) 0)) + sig1 (xs.getD (k - 2) 0)))
def sp2 : Nat → Nat → List Int → List Int
  | 0, _, xs => xs
  | f + 1, k, xs => sp2 f (k + 1) (st2 k xs)
def spreadF (b : ByteArray) : List Int := sp2 48 16 (sp1 b 64 0 (List.replicate 64 0))
theorem st1_len (b : ByteArray) (k : Nat) (xs : List Int) : (st1 b k xs).length = xs.length := List.length_set
theorem st2_len (k : Nat) (xs : List Int) : (st2 k xs).length = xs.length := List.length_set
set_option maxHeartbeats 1000000 in
set_option maxRecDepth 100000 in
theorem spread.calls (b : ByteArray) (w : World) (hb : b.size = 64) :
    Calls Try.prog 42 #[.string b] w fun e w' => e = .returned (.agg (cells (spreadF b))) ∧ Below w.heap.size w w' := by
  obtain ⟨ys, hys⟩ : ∃ ys, sp1 b 64 0 (List.replicate 64 0) = ys := ⟨_, rfl⟩
  obtain ⟨zs, hzs⟩ : ∃ zs, spreadF b = zs := ⟨_, rfl⟩
  have HF : sp2 48 16 ys = zs := by rw [← hzs, ← hys]; rfl
  rw [hzs]
  have HQ := hid (And.intro hys HF)
  clear hys HF hzs
  have r7 := hid (fun x W => rot_calls x (-7) (by decide) (by decide) W)
  have r18 := hid (fun x W => rot_calls x (-18) (by decide) (by decide) W)
  have r17 := hid (fun x W => rot_calls x (-17) (by decide) (by decide) W)
  have r19 := hid (fun x W => rot_calls x (-19) (by decide) (by decide) W)
  go_enter Try.func42, Try.ntmps42
  go_wp2_with fail
  go_loopw [7] (fun v wr => ∃ (k : Nat) (xs : List Int), v = .int .i64 (k : Int) ∧ k ≤ 64 ∧ xs.length = 64 ∧ wr.heap[w.heap.size]? = some (.cells (cells xs) 37 (0, 0)) ∧ Below w.heap.size w wr ∧ Hid (sp1 b (64 - k) k xs = ys)) (fun v _ => 64 - (intOf v).toNat)
  case atStart => exact ⟨0, List.replicate 64 0, rfl, by decide, by decide, by rw [heap_alloc_new]; rfl, (Below.refl _ _).alloc (Nat.le_refl _) _, HQ.out.1⟩
  case round =>
    obtain ⟨k, xs, rfl, hk, hl, hc, hbw, HP⟩ := hrel
    by_cases hlt : k < 64
    · have hlt2 : (k : Int) < 64 := by omega
      obtain ⟨j, hj⟩ : ∃ j, k / 4 = j := ⟨_, rfl⟩
      have hc1 : wr.cell? ⟨w.heap.size, j, none⟩ = some (.int .u32 (xs.getD j 0)) := (blk_cell hc j).trans (cells_at xs _ (by omega))
      have hf1 : wr.frozen? ⟨w.heap.size, j, none⟩ = false := blk_frozen hc _
      have hx : k < b.size := by omega
      have hb1 := bt_nat b k hx
      have e1 : (k : Int) / 4 = (j : Int) := by omega
      have e2 : Int.tdiv (k : Int) 4 = (j : Int) := by rw [Int.tdiv_eq_ediv_of_nonneg (by omega)]; exact e1
      have e3 : (0 : Int) ≤ (j : Int) := by omega
      have e4 : (j : Int) < 64 := by omega
      have e5 : (0 : Int) ≤ (k : Int) := by omega
      have e6 : (k : Int) < (b.size : Int) := by omega
      have hs : st1 b k xs = xs.set j (Go.bits .or .u32 (xs.getD j 0 * 256 % 4294967296) (((b[k]'hx).toNat : Int) % 4294967296)) := by rw [st1, hj, hb1]
      have hP := HP.out
      rw [show 64 - k = (64 - (k + 1)) + 1 by omega, sp1] at hP
      have hn := blk_set hc j (.int .u32 (Go.bits .or .u32 (xs.getD j 0 * 256 % 4294967296) (((b[k]'hx).toNat : Int) % 4294967296)))
      rw [cells_set, ← hs] at hn
      have hbn := hbw.setCell (p := ⟨w.heap.size, j, none⟩) (Nat.le_refl _) (.int .u32 (Go.bits .or .u32 (xs.getD j 0 * 256 % 4294967296) (((b[k]'hx).toNat : Int) % 4294967296)))
      have HC := hid (And.intro hn (And.intro hbn hP))
      have hl2 := st1_len b k xs
      clear hc hbw hb1 hs hn hbn hP HP
      generalize xs.getD j 0 = x at *
      generalize st1 b k xs = xs2 at *
      go_wp2_with fail
      go_region
      go_wp2_with fail
      go_roundw
      case rel => exact ⟨k + 1, xs2, by go_num, by omega, by omega, HC.out.1, HC.out.2.1.drew, HC.out.2.2⟩
      case measure => simp [intOf]; omega
    · have hk4 : k = 64 := by omega
      subst hk4
      have hP : xs = ys := HP.out
      subst hP
      clear HP hlt hk
      go_wp2_with fail
      go_loopw [4, 5, 6] (fun v v5 v6 wr => ∃ (k : Nat) (xs : List Int), v = .int .i64 (k : Int) ∧ 16 ≤ k ∧ k ≤ 64 ∧ xs.length = 64 ∧ wr.heap[w.heap.size]? = some (.cells (cells xs) 37 (0, 0)) ∧ Below w.heap.size w wr ∧ Hid (sp2 (64 - k) k xs = zs)) (fun v v5 v6 _ => 64 - (intOf v).toNat)
      case atStart => exact ⟨16, xs, rfl, by decide, by decide, hl, hc, hbw, HQ.out.2⟩
      case round =>
        obtain ⟨k, xs, rfl, hk16, hk, hl, hc, hbw, HP⟩ := hrel
        by_cases hlt : k < 64
        · have hlt2 : (k : Int) < 64 := by omega
          have c15 : wr.cell? ⟨w.heap.size, k - 15, none⟩ = some (.int .u32 (xs.getD (k - 15) 0)) := (blk_cell hc _).trans (cells_at xs _ (by omega))
          have c2 : wr.cell? ⟨w.heap.size, k - 2, none⟩ = some (.int .u32 (xs.getD (k - 2) 0)) := (blk_cell hc _).trans (cells_at xs _ (by omega))
          have c16 : wr.cell? ⟨w.heap.size, k - 16, none⟩ = some (.int .u32 (xs.getD (k - 16) 0)) := (blk_cell hc _).trans (cells_at xs _ (by omega))
          have c7 : wr.cell? ⟨w.heap.size, k - 7, none⟩ = some (.int .u32 (xs.getD (k - 7) 0)) := (blk_cell hc _).trans (cells_at xs _ (by omega))
          have cf := blk_frozen hc k
          have ck : wr.cell? ⟨w.heap.size, k, none⟩ = some (.int .u32 (xs.getD k 0)) := (blk_cell hc k).trans (cells_at xs k (by omega))
          have e5 : (0 : Int) ≤ (k : Int) := by omega
          have kA := hid (fun v => set_at hc k (by omega) v)
          have kB := hid (fun v => blk_frozen (blk_set hc k (.int .u32 v)) k)
          have HC := hid (And.intro hc hbw)
          have hst : st2 k xs = xs.set k (IntKind.u32.wrap (IntKind.u32.wrap ((xs.getD (k - 16) 0 + xs.getD (k - 7) 0) % 4294967296 + Go.bits .xor .u32 (Go.bits .xor .u32 (rot (xs.getD (k - 15) 0) (-7)) (rot (xs.getD (k - 15) 0) (-18))) (xs.getD (k - 15) 0 / 8)) + Go.bits .xor .u32 (Go.bits .xor .u32 (rot (xs.getD (k - 2) 0) (-17)) (rot (xs.getD (k - 2) 0) (-19))) (xs.getD (k - 2) 0 / 1024))) := rfl
          have hst := hid hst
          have hP := HP.out
          rw [show 64 - k = (64 - (k + 1)) + 1 by omega, sp2] at hP
          have hP := hid hP
          clear hc hbw HP
          generalize xs.getD k 0 = x0 at *
          generalize xs.getD (k - 15) 0 = x15 at *
          generalize xs.getD (k - 2) 0 = x2 at *
          generalize xs.getD (k - 16) 0 = x16 at *
          generalize xs.getD (k - 7) 0 = x7 at *
          go_wp2_with fail
          go_region
          go_wp2_with fail
          go_region
          go_wp2_with fail
          have kA1 := kA.out ((x16 + x7) % 4294967296)
          have kB1 := kB.out ((x16 + x7) % 4294967296)
          have kC := hid (fun (n : Nat) (v : Int) => And.intro (blk_set (blk_drewN (blk_set HC.out.1 k (.int .u32 ((x16 + x7) % 4294967296))) n) k (.int .u32 v)) (((HC.out.2.setCell (p := ⟨w.heap.size, k, none⟩) (Nat.le_refl _) (.int .u32 ((x16 + x7) % 4294967296))).trans (Joins.below_draws _ _ n)).setCell (p := ⟨w.heap.size, k, none⟩) (Nat.le_refl _) (.int .u32 v)))
          generalize (x16 + x7) % 4294967296 = V at *
          refine start_ (n := 14) (S := fun w' => w'.cell? ⟨w.heap.size, k, none⟩ = some (.int .u32 V)) (ds := [13]) #[false, false, false, false, false, false, false, false, false, false, false, false, false, false] (by kernel_rfl) rfl rfl kA1 (fun hHeld => ?_)
          refine pure_ (i := 0) (N := some 47) (v := ?_) (a' := ?_) #[true, false, false, false, false, false, false, false, false, false, false, false, false, false] rfl rfl (by kernel_rfl) (fun _ _ _ h => h) (Or.inl ⟨by rfl, ?_⟩) ?_ ?_
          rotate_left
          · intro w'
            go_simp
            with_reducible rfl
          rotate_left
          · simp only [Act.put, List.setIfInBounds_toArray, List.set_cons_zero, List.set_cons_succ, i64_w, i32_w]
            rfl
          refine pure_ (i := 1) (N := some 48) (v := ?_) (a' := ?_) #[true, true, false, false, false, false, false, false, false, false, false, false, false, false] rfl rfl (by kernel_rfl) (fun _ _ _ h => h) (Or.inl ⟨by rfl, ?_⟩) ?_ ?_
          rotate_left
          · intro w'
            go_simp
            with_reducible rfl
          rotate_left
          · simp only [Act.put, List.setIfInBounds_toArray, List.set_cons_zero, List.set_cons_succ, i64_w, i32_w]
            rfl
          refine pure_ (i := 3) (N := some 50) (v := ?_) (a' := ?_) #[true, true, false, true, false, false, false, false, false, false, false, false, false, false] rfl rfl (by kernel_rfl) (fun _ _ _ h => h) (Or.inl ⟨by rfl, ?_⟩) ?_ ?_
          rotate_left
          · intro w'
            go_simp
            with_reducible rfl
          rotate_left
          · simp only [Act.put, List.setIfInBounds_toArray, List.set_cons_zero, List.set_cons_succ, i64_w, i32_w]
            rfl
          refine pure_ (i := 5) (N := some 52) (v := ?_) (a' := ?_) #[true, true, false, true, false, true, false, false, false, false, false, false, false, false] rfl rfl (by kernel_rfl) (fun _ _ _ h => h) (Or.inl ⟨by rfl, ?_⟩) ?_ ?_
          rotate_left
          · intro w'
            go_simp
            with_reducible rfl
          rotate_left
          · simp only [Act.put, List.setIfInBounds_toArray, List.set_cons_zero, List.set_cons_succ, i64_w, i32_w]
            rfl
          refine pure_ (i := 8) (N := some 55) (v := ?_) (a' := ?_) #[true, true, false, true, false, true, false, false, true, false, false, false, false, false] rfl rfl (by kernel_rfl) (fun _ _ _ h => h) (Or.inl ⟨by rfl, ?_⟩) ?_ ?_
          rotate_left
          · intro w'
            go_simp
            with_reducible rfl
          rotate_left
          · simp only [Act.put, List.setIfInBounds_toArray, List.set_cons_zero, List.set_cons_succ, i64_w, i32_w]
            rfl
          refine pure_ (i := 9) (N := some 56) (v := ?_) (a' := ?_) #[true, true, false, true, false, true, false, false, true, true, false, false, false, false] rfl rfl (by kernel_rfl) (fun _ _ _ h => h) (Or.inl ⟨by rfl, ?_⟩) ?_ ?_
          rotate_left
          · intro w'
            go_simp
            with_reducible rfl
          rotate_left
          · simp only [Act.put, List.setIfInBounds_toArray, List.set_cons_zero, List.set_cons_succ, i64_w, i32_w]
            rfl
          refine take_ (i := 2) (N := some 49) (v := ?_) (a' := ?_) #[true, true, true, true, false, true, false, false, true, true, false, false, false, false] rfl rfl (by kernel_rfl) (fun _ _ _ h => h) (Or.inl ⟨by rfl, ?_⟩) hHeld ?_ ?_
          rotate_left
          · rintro w' s0
            go_simp
            with_reducible rfl
          rotate_left
          · simp only [Act.put, List.setIfInBounds_toArray, List.set_cons_zero, List.set_cons_succ, i64_w, i32_w]
            rfl
          refine one_ (i := 4) (N := some 51) #[true, true, true, true, true, true, false, false, true, true, false, false, false, false] rfl rfl (by kernel_rfl) (by decide) (fun K hK => ?_)
          refine goes_ Try.func43 (by kernel_rfl) rfl #[.int .u32 x15, .int .i64 (-7)] (by rfl) rfl rfl (by (try simp only [List.map_toArray, List.map_cons, List.map_nil]); first | done | rfl) ?_
          refine (r7.out _ _).mono ?_
          rintro e w' ⟨rfl, ⟨n1, rfl⟩⟩
          refine ⟨_, rfl, ?_⟩
          refine hK.out _ _ hHeld (fun hHeld => ?_)
          clear hK K
          refine norm_ (a' := ?_) ?_ ?_
          rotate_left
          · show Act.put _ (some 51) _ = _
            simp only [Act.put, List.setIfInBounds_toArray, List.set_cons_zero, List.set_cons_succ, i64_w, i32_w]
            rfl
          refine one_ (i := 6) (N := some 53) #[true, true, true, true, true, true, true, false, true, true, false, false, false, false] rfl rfl (by kernel_rfl) (by decide) (fun K hK => ?_)
          refine goes_ Try.func43 (by kernel_rfl) rfl #[.int .u32 x15, .int .i64 (-18)] (by rfl) rfl rfl (by (try simp only [List.map_toArray, List.map_cons, List.map_nil]); first | done | rfl) ?_
          refine (r18.out _ _).mono ?_
          rintro e w' ⟨rfl, ⟨n2, rfl⟩⟩
          refine ⟨_, rfl, ?_⟩
          refine hK.out _ _ hHeld (fun hHeld => ?_)
          clear hK K
          refine norm_ (a' := ?_) ?_ ?_
          rotate_left
          · show Act.put _ (some 53) _ = _
            simp only [Act.put, List.setIfInBounds_toArray, List.set_cons_zero, List.set_cons_succ, i64_w, i32_w]
            rfl
          refine pure_ (i := 7) (N := some 54) (v := ?_) (a' := ?_) #[true, true, true, true, true, true, true, true, true, true, false, false, false, false] rfl rfl (by kernel_rfl) (fun _ _ _ h => h) (Or.inl ⟨by rfl, ?_⟩) ?_ ?_
          rotate_left
          · intro w'
            go_simp
            with_reducible rfl
          rotate_left
          · simp only [Act.put, List.setIfInBounds_toArray, List.set_cons_zero, List.set_cons_succ, i64_w, i32_w]
            rfl
          refine pure_ (i := 10) (N := some 57) (v := ?_) (a' := ?_) #[true, true, true, true, true, true, true, true, true, true, true, false, false, false] rfl rfl (by kernel_rfl) (fun _ _ _ h => h) (Or.inl ⟨by rfl, ?_⟩) ?_ ?_
          rotate_left
          · intro w'
            go_simp
            with_reducible rfl
          rotate_left
          · simp only [Act.put, List.setIfInBounds_toArray, List.set_cons_zero, List.set_cons_succ, i64_w, i32_w]
            rfl
          refine pure_ (i := 11) (N := some 58) (v := ?_) (a' := ?_) #[true, true, true, true, true, true, true, true, true, true, true, true, false, false] rfl rfl (by kernel_rfl) (fun _ _ _ h => h) (Or.inl ⟨by rfl, ?_⟩) ?_ ?_
          rotate_left
          · intro w'
            go_simp
            with_reducible rfl
          rotate_left
          · simp only [Act.put, List.setIfInBounds_toArray, List.set_cons_zero, List.set_cons_succ, i64_w, i32_w]
            rfl
          refine pure_ (i := 12) (N := some 59) (v := ?_) (a' := ?_) #[true, true, true, true, true, true, true, true, true, true, true, true, true, false] rfl rfl (by kernel_rfl) (fun _ _ _ h => h) (Or.inl ⟨by rfl, ?_⟩) ?_ ?_
          rotate_left
          · intro w'
            go_simp
            with_reducible rfl
          rotate_left
          · simp only [Act.put, List.setIfInBounds_toArray, List.set_cons_zero, List.set_cons_succ, i64_w, i32_w]
            rfl
          refine last_ (i := 13) (N := none) #[true, true, true, true, true, true, true, true, true, true, true, true, true, true] rfl rfl (by kernel_rfl) (by decide) (fun K hK => ?_)
          refine skip_ (w1 := ?_) (by rfl) rfl ?_ ?_
          rotate_left
          · go_simp
            with_reducible rfl
          refine hK.out _ _ ?_
          clear hK K
          refine done_ (by kernel_rfl) ?_
          have kD := kC.out (1 + (1 + (1 + n1)) + n2) (IntKind.u32.wrap (V + Go.bits .xor .u32 (Go.bits .xor .u32 (rot x15 (-7)) (rot x15 (-18))) (x15 / 8)))
          go_wp2_with fail
          generalize IntKind.u32.wrap (V + Go.bits .xor .u32 (Go.bits .xor .u32 (rot x15 (-7)) (rot x15 (-18))) (x15 / 8)) = V2 at *
          generalize ((wr.setCell ⟨w.heap.size, k, none⟩ (.int .u32 V)).drewN (1 + (1 + (1 + n1)) + n2)).setCell ⟨w.heap.size, k, none⟩ (.int .u32 V2) = W2 at kD ⊢
          obtain ⟨kE, kF⟩ := kD
          rw [cells_set, cells_set, List.set_set] at kE
          have kA2 : W2.cell? ⟨w.heap.size, k, none⟩ = some (.int .u32 V2) := (blk_cell kE k).trans ((cells_at _ k (by rw [List.length_set]; omega)).trans (by simp [show k < xs.length by omega]))
          have kB2 := blk_frozen kE k
          clear kA1 kB1
          replace kE := hid kE
          replace kF := hid kF
          refine start_ (n := 14) (S := fun w' => w'.cell? ⟨w.heap.size, k, none⟩ = some (.int .u32 V2)) (ds := [13]) #[false, false, false, false, false, false, false, false, false, false, false, false, false, false] (by kernel_rfl) rfl rfl kA2 (fun hHeld => ?_)
          refine pure_ (i := 0) (N := some 60) (v := ?_) (a' := ?_) #[true, false, false, false, false, false, false, false, false, false, false, false, false, false] rfl rfl (by kernel_rfl) (fun _ _ _ h => h) (Or.inl ⟨by rfl, ?_⟩) ?_ ?_
          rotate_left
          · intro w'
            go_simp
            with_reducible rfl
          rotate_left
          · simp only [Act.put, List.setIfInBounds_toArray, List.set_cons_zero, List.set_cons_succ, i64_w, i32_w]
            rfl
          refine pure_ (i := 1) (N := some 61) (v := ?_) (a' := ?_) #[true, true, false, false, false, false, false, false, false, false, false, false, false, false] rfl rfl (by kernel_rfl) (fun _ _ _ h => h) (Or.inl ⟨by rfl, ?_⟩) ?_ ?_
          rotate_left
          · intro w'
            go_simp
            with_reducible rfl
          rotate_left
          · simp only [Act.put, List.setIfInBounds_toArray, List.set_cons_zero, List.set_cons_succ, i64_w, i32_w]
            rfl
          refine pure_ (i := 3) (N := some 63) (v := ?_) (a' := ?_) #[true, true, false, true, false, false, false, false, false, false, false, false, false, false] rfl rfl (by kernel_rfl) (fun _ _ _ h => h) (Or.inl ⟨by rfl, ?_⟩) ?_ ?_
          rotate_left
          · intro w'
            go_simp
            with_reducible rfl
          rotate_left
          · simp only [Act.put, List.setIfInBounds_toArray, List.set_cons_zero, List.set_cons_succ, i64_w, i32_w]
            rfl
          refine pure_ (i := 5) (N := some 65) (v := ?_) (a' := ?_) #[true, true, false, true, false, true, false, false, false, false, false, false, false, false] rfl rfl (by kernel_rfl) (fun _ _ _ h => h) (Or.inl ⟨by rfl, ?_⟩) ?_ ?_
          rotate_left
          · intro w'
            go_simp
            with_reducible rfl
          rotate_left
          · simp only [Act.put, List.setIfInBounds_toArray, List.set_cons_zero, List.set_cons_succ, i64_w, i32_w]
            rfl
          refine pure_ (i := 8) (N := some 68) (v := ?_) (a' := ?_) #[true, true, false, true, false, true, false, false, true, false, false, false, false, false] rfl rfl (by kernel_rfl) (fun _ _ _ h => h) (Or.inl ⟨by rfl, ?_⟩) ?_ ?_
          rotate_left
          · intro w'
            go_simp
            with_reducible rfl
          rotate_left
          · simp only [Act.put, List.setIfInBounds_toArray, List.set_cons_zero, List.set_cons_succ, i64_w, i32_w]
            rfl
          refine pure_ (i := 9) (N := some 69) (v := ?_) (a' := ?_) #[true, true, false, true, false, true, false, false, true, true, false, false, false, false] rfl rfl (by kernel_rfl) (fun _ _ _ h => h) (Or.inl ⟨by rfl, ?_⟩) ?_ ?_
          rotate_left
          · intro w'
            go_simp
            with_reducible rfl
          rotate_left
          · simp only [Act.put, List.setIfInBounds_toArray, List.set_cons_zero, List.set_cons_succ, i64_w, i32_w]
            rfl
          refine take_ (i := 2) (N := some 62) (v := ?_) (a' := ?_) #[true, true, true, true, false, true, false, false, true, true, false, false, false, false] rfl rfl (by kernel_rfl) (fun _ _ _ h => h) (Or.inl ⟨by rfl, ?_⟩) hHeld ?_ ?_
          rotate_left
          · rintro w' s0
            go_simp
            with_reducible rfl
          rotate_left
          · simp only [Act.put, List.setIfInBounds_toArray, List.set_cons_zero, List.set_cons_succ, i64_w, i32_w]
            rfl
          refine one_ (i := 4) (N := some 64) #[true, true, true, true, true, true, false, false, true, true, false, false, false, false] rfl rfl (by kernel_rfl) (by decide) (fun K hK => ?_)
          refine goes_ Try.func43 (by kernel_rfl) rfl #[.int .u32 x2, .int .i64 (-17)] (by rfl) rfl rfl (by (try simp only [List.map_toArray, List.map_cons, List.map_nil]); first | done | rfl) ?_
          refine (r17.out _ _).mono ?_
          rintro e w' ⟨rfl, ⟨n3, rfl⟩⟩
          refine ⟨_, rfl, ?_⟩
          refine hK.out _ _ hHeld (fun hHeld => ?_)
          clear hK K
          refine norm_ (a' := ?_) ?_ ?_
          rotate_left
          · show Act.put _ (some 64) _ = _
            simp only [Act.put, List.setIfInBounds_toArray, List.set_cons_zero, List.set_cons_succ, i64_w, i32_w]
            rfl
          refine one_ (i := 6) (N := some 66) #[true, true, true, true, true, true, true, false, true, true, false, false, false, false] rfl rfl (by kernel_rfl) (by decide) (fun K hK => ?_)
          refine goes_ Try.func43 (by kernel_rfl) rfl #[.int .u32 x2, .int .i64 (-19)] (by rfl) rfl rfl (by (try simp only [List.map_toArray, List.map_cons, List.map_nil]); first | done | rfl) ?_
          refine (r19.out _ _).mono ?_
          rintro e w' ⟨rfl, ⟨n4, rfl⟩⟩
          refine ⟨_, rfl, ?_⟩
          refine hK.out _ _ hHeld (fun hHeld => ?_)
          clear hK K
          refine norm_ (a' := ?_) ?_ ?_
          rotate_left
          · show Act.put _ (some 66) _ = _
            simp only [Act.put, List.setIfInBounds_toArray, List.set_cons_zero, List.set_cons_succ, i64_w, i32_w]
            rfl
          refine pure_ (i := 7) (N := some 67) (v := ?_) (a' := ?_) #[true, true, true, true, true, true, true, true, true, true, false, false, false, false] rfl rfl (by kernel_rfl) (fun _ _ _ h => h) (Or.inl ⟨by rfl, ?_⟩) ?_ ?_
          rotate_left
          · intro w'
            go_simp
            with_reducible rfl
          rotate_left
          · simp only [Act.put, List.setIfInBounds_toArray, List.set_cons_zero, List.set_cons_succ, i64_w, i32_w]
            rfl
          refine pure_ (i := 10) (N := some 70) (v := ?_) (a' := ?_) #[true, true, true, true, true, true, true, true, true, true, true, false, false, false] rfl rfl (by kernel_rfl) (fun _ _ _ h => h) (Or.inl ⟨by rfl, ?_⟩) ?_ ?_
          rotate_left
          · intro w'
            go_simp
            with_reducible rfl
          rotate_left
          · simp only [Act.put, List.setIfInBounds_toArray, List.set_cons_zero, List.set_cons_succ, i64_w, i32_w]
            rfl
          refine pure_ (i := 11) (N := some 71) (v := ?_) (a' := ?_) #[true, true, true, true, true, true, true, true, true, true, true, true, false, false] rfl rfl (by kernel_rfl) (fun _ _ _ h => h) (Or.inl ⟨by rfl, ?_⟩) ?_ ?_
          rotate_left
          · intro w'
            go_simp
            with_reducible rfl
          rotate_left
          · simp only [Act.put, List.setIfInBounds_toArray, List.set_cons_zero, List.set_cons_succ, i64_w, i32_w]
            rfl
          refine pure_ (i := 12) (N := some 72) (v := ?_) (a' := ?_) #[true, true, true, true, true, true, true, true, true, true, true, true, true, false] rfl rfl (by kernel_rfl) (fun _ _ _ h => h) (Or.inl ⟨by rfl, ?_⟩) ?_ ?_
          rotate_left
          · intro w'
            go_simp
            with_reducible rfl
          rotate_left
          · simp only [Act.put, List.setIfInBounds_toArray, List.set_cons_zero, List.set_cons_succ, i64_w, i32_w]
            rfl
          refine last_ (i := 13) (N := none) #[true, true, true, true, true, true, true, true, true, true, true, true, true, true] rfl rfl (by kernel_rfl) (by decide) (fun K hK => ?_)
          refine skip_ (w1 := ?_) (by rfl) rfl ?_ ?_
          rotate_left
          · go_simp
            with_reducible rfl
          refine hK.out _ _ ?_
          clear hK K
          refine done_ (by kernel_rfl) ?_
          go_wp2_with fail
          go_roundw
          case rel =>
            have kG := blk_set (blk_drewN kE.out (1 + n3 + n4)) k (.int .u32 ((V2 + Go.bits .xor .u32 (Go.bits .xor .u32 (rot x2 (-17)) (rot x2 (-19))) (x2 / 1024)) % 4294967296))
            rw [cells_set, List.set_set, ← u32w, ← hst.out] at kG
            rw [← u32w]
            exact ⟨k + 1, st2 k xs, by go_num, by omega, by omega, by rw [st2_len]; exact hl, kG, (kF.out.trans (Joins.below_draws _ _ _)).setCell (p := ⟨w.heap.size, k, none⟩) (Nat.le_refl _) _, hP.out⟩
          case measure => simp [intOf]; omega
        · have hk4 : k = 64 := by omega
          subst hk4
          have hP : xs = zs := HP.out
          subst hP
          clear HP hlt hk hk16
          have i37 : (Try.prog.info? 37).map (·.size) = some 64 := by kernel_rfl
          have hsz : (cells xs).toList.length = 64 := by rw [Array.length_toList, cells_size]; exact hl
          have hsz2 : (cells xs).size = 64 := by rw [cells_size]; exact hl
          have hr := cells_range hc
          have ht := cells_there hc
          have h1 := cells_one xs
          have hb2 := setCells_whole hc (cells xs) rfl
          have hbl := below_setCells (g := w.heap.size) (Nat.le_refl _) (cells xs).toList 0 wr hbw
          have HH := hid (And.intro hb2 hbl)
          clear hb2 hbl hc hbw
          go_wp2_with (first | (refine wpList_load_mid rfl 37 (.tmp 2) rfl w.heap.size 0 rfl (cells xs).toList _ hr Try.underlying37 rfl (by rw [hsz]; exact i37) ?_) | (refine wpList_store_mid rfl 37 (.tmp 2) (.tmp 73) rfl w.heap.size 0 (cells xs) rfl rfl ht (by rw [hsz2]; exact i37) h1 ?_))
          refine bodyPost_ret (results_c1 rfl _ _ w.heap.size 37 (cells xs) (0, 0) _ rfl HH.out.1 Try.underlying37 rfl (by rw [hsz2]; exact i37)) rfl ?_
          exact ⟨rfl, HH.out.2⟩
end Go.Proofs.Ytakbdknmfaoppaa.R
