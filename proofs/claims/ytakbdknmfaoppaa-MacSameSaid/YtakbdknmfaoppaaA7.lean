/-
  The walk of mac.Mac.
-/
import Derived.Test.YtakbdknmfaoppaaA6
namespace Go.Proofs.Ytakbdknmfaoppaa.R
set_option linter.unusedVariables false
set_option linter.unusedSimpArgs false
open Go.RowKit Go.Proofs.YtakbdknmfaoppaaW.PrintWords Go.Proofs.YtakbdknmfaoppaaW.PrintLast Go.Proofs.YtakbdknmfaoppaaW.PrintMore
open Go.Lib (hid)
theorem strNums_size (l : List Int) : (strOfNums l).size = l.length := by
  unfold strOfNums
  simp [ByteArray.size]
theorem outF_length (h : List Int) : (outF h).length = 4 * h.length := by
  induction h with
  | nil => rfl
  | cons a t ih => simp only [outF, List.flatMap_cons, List.length_append] at *; rw [ih]; simp [four]; omega
theorem blk_length (p : ByteArray) : ∀ f i h, h.length = 8 → (blk p f i h).length = 8 := by
  intro f
  induction f with
  | zero => intro i h e; exact e
  | succ f ih => intro i h e; rw [blk]; exact ih _ _ (mixF_len _ _ _ e)
theorem sum32 (s : ByteArray) : (sumB s).size = 32 := by
  rw [sumB, strNums_size, outF_length, blk_length _ _ _ _ H0_len]
theorem turn64 (key : ByteArray) (b : Int) (h : key.size ≤ 64) : (turnF key b).size = 64 := by
  rw [turnF, strNums_size, tl_len, klong_len key h]
theorem next {w w1 w2 : World} (h : Below w.heap.size w w1) (k : Below w1.heap.size w1 w2) : Below w.heap.size w w2 := below_then h h.size k
def keyB (key : ByteArray) : ByteArray := if key.size ≤ 64 then key else sumB key
theorem keyB_le (key : ByteArray) : (keyB key).size ≤ 64 := by
  unfold keyB
  split
  · assumption
  · rw [sum32]; decide
def macB (key s : ByteArray) : ByteArray := sumB (turnF (keyB key) 92 ++ sumB (turnF (keyB key) 54 ++ s))
set_option maxHeartbeats 2000000 in
set_option maxRecDepth 100000 in
theorem Mac.go (key s : ByteArray) (w : World) (hk : key.size ≤ 1000000) (hs : s.size ≤ 900000) :
    Calls Try.prog 19 #[.string key, .string s] w fun e w' => e = .returned (.string (macB key s)) ∧ Below w.heap.size w w' := by
  have hkl := keyB_le key
  have hT := hid (fun b W (h : W.cell? ⟨w.heap.size, 0, none⟩ = some (.string (keyB key))) => turned1 (keyB key) hkl b w.heap.size W h)
  have z92 := turn64 (keyB key) 92 hkl
  have z54 := turn64 (keyB key) 54 hkl
  have HM : Hid (macB key s = sumB (turnF (keyB key) 92 ++ sumB (turnF (keyB key) 54 ++ s))) := hid rfl
  have hS1 := hid (fun W => Sum.go (turnF (keyB key) 54 ++ s) W (by rw [ByteArray.size_append]; omega))
  have hS2 := hid (fun W => Sum.go (turnF (keyB key) 92 ++ sumB (turnF (keyB key) 54 ++ s)) W (by rw [ByteArray.size_append, sum32]; omega))
  have hq1 : (9223372036854775807 < (turnF (keyB key) 54).size + s.size) = False := eq_false (by omega)
  have z2 := sum32 (turnF (keyB key) 54 ++ s)
  have hq2 : (9223372036854775807 < (turnF (keyB key) 92).size + (sumB (turnF (keyB key) 54 ++ s)).size) = False := eq_false (by omega)
  generalize sumB (turnF (keyB key) 54 ++ s) = m2 at *
  clear z92 z54 z2
  by_cases h64 : key.size ≤ 64
  · have e : keyB key = key := by rw [keyB, if_pos h64]
    rw [e] at hT HM hS1 hS2 hq1 hq2
    clear e
    have h642 : ¬ (key.size : Int) > 64 := by omega
    have HC1 : (w.alloc (.cells #[.string key] 9)).cell? ⟨w.heap.size, 0, none⟩ = some (.string key) := (blk_cell (blk_new w _) 0).trans rfl
    have HB0 : Hid (Below w.heap.size w (w.alloc (.cells #[.string key] 9))) := hid ((Below.refl _ _).alloc (Nat.le_refl _) _)
    go_enter Try.func19, Try.ntmps19
    go_wp2_with fail
    refine (hT.out 92 _ HC1).mono ?_
    rintro e w2 ⟨rfl, hb2⟩
    have HC2 : w2.cell? ⟨w.heap.size, 0, none⟩ = some (.string key) := pw_cell_below hb2 HC1
    replace hb2 := hid hb2
    go_wp2_with fail
    refine (hT.out 54 _ HC2).mono ?_
    rintro e w3 ⟨rfl, hb3⟩
    replace hb3 := hid hb3
    clear HC1 HC2
    go_wp2_with fail
    refine (hS1.out _).mono ?_
    rintro e w4 ⟨rfl, hb4⟩
    replace hb4 := hid hb4
    go_wp2_with fail
    refine (hS2.out _).mono ?_
    rintro e w5 ⟨rfl, hb5⟩
    replace hb5 := hid hb5
    go_wp2_with fail
    go_ret
    exact ⟨by rw [HM.out]; rfl, next (next (next (next HB0.out hb2.out) hb3.out) hb4.out) hb5.out⟩
  · have e : keyB key = sumB key := by rw [keyB, if_neg h64]
    rw [e] at hT HM hS1 hS2 hq1 hq2
    clear e
    have hS0 := hid (fun W => Sum.go key W hk)
    generalize sumB key = k2 at *
    have h642 : (key.size : Int) > 64 := by omega
    go_enter Try.func19, Try.ntmps19
    go_wp2_with fail
    refine (hS0.out _).mono ?_
    rintro e w1 ⟨rfl, hb1⟩
    have F0 := blk_below (blk_new w (.cells #[.string key] 9)) hb1
    have HB1 := next ((Below.refl _ w).alloc (Nat.le_refl _) (.cells #[.string key] 9)) hb1
    have c0 : w1.cell? ⟨w.heap.size, 0, none⟩ = some (.string key) := (blk_cell F0 0).trans rfl
    have f0 := blk_frozen F0 0
    have F1 := blk_set F0 0 (.string k2)
    have HC1 : (w1.setCell ⟨w.heap.size, 0, none⟩ (.string k2)).cell? ⟨w.heap.size, 0, none⟩ = some (.string k2) := (blk_cell F1 0).trans rfl
    have HB0 : Hid (Below w.heap.size w (w1.setCell ⟨w.heap.size, 0, none⟩ (.string k2))) := hid (HB1.setCell (p := ⟨w.heap.size, 0, none⟩) (Nat.le_refl _) _)
    clear F0 HB1 F1 hb1
    go_wp2_with fail
    refine (hT.out 92 _ HC1).mono ?_
    rintro e w2 ⟨rfl, hb2⟩
    have HC2 : w2.cell? ⟨w.heap.size, 0, none⟩ = some (.string k2) := pw_cell_below hb2 HC1
    replace hb2 := hid hb2
    go_wp2_with fail
    refine (hT.out 54 _ HC2).mono ?_
    rintro e w3 ⟨rfl, hb3⟩
    replace hb3 := hid hb3
    clear HC1 HC2
    go_wp2_with fail
    refine (hS1.out _).mono ?_
    rintro e w4 ⟨rfl, hb4⟩
    replace hb4 := hid hb4
    go_wp2_with fail
    refine (hS2.out _).mono ?_
    rintro e w5 ⟨rfl, hb5⟩
    replace hb5 := hid hb5
    go_wp2_with fail
    go_ret
    exact ⟨by rw [HM.out]; rfl, next (next (next (next HB0.out hb2.out) hb3.out) hb4.out) hb5.out⟩
theorem w65 (n : Nat) (h : n ≤ 300) : wrap64 (65 - (n : Int)) = 65 - (n : Int) := by unfold wrap64; omega
def Mac.f (key s : ByteArray) : Option ByteArray := if key.size ≤ 1000000 ∧ s.size ≤ 900000 then some (macB key s) else none
theorem Mac.calls (key s : ByteArray) (r : ByteArray) (w : World) (h : Mac.f key s = some r) :
    Calls Try.prog 19 #[.string key, .string s] w fun e w' => e = .returned (.string r) ∧ Below w.heap.size w w' := by
  unfold Mac.f at h
  split at h
  case isFalse => cases h
  rename_i hs
  obtain rfl := Option.some.inj h
  exact Mac.go key s w hs.1 hs.2
def turned.f (key : ByteArray) (b : Int) : Option ByteArray := if key.size ≤ 64 then some (turnF key b) else none
theorem turned.calls (key : ByteArray) (b : Int) (r : ByteArray) (w : World) (h : turned.f key b = some r) :
    Calls Try.prog 34 #[.string key, .int .u8 b] w fun e w' => e = .returned (.string r) ∧ Below w.heap.size w w' := by
  unfold turned.f at h
  split at h
  case isFalse => cases h
  rename_i hs
  obtain rfl := Option.some.inj h
  exact turned2 key hs b w
end Go.Proofs.Ytakbdknmfaoppaa.R
