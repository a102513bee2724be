/-
  The walk of sha.tables.
-/
import Derived.Test.YtakbdknmfaoppaaA1
namespace Go.Proofs.Ytakbdknmfaoppaa.R
set_option linter.unusedVariables false
set_option linter.unusedSimpArgs false
open Go.RowKit Go.Proofs.YtakbdknmfaoppaaW.PrintWords Go.Proofs.YtakbdknmfaoppaaW.PrintLast Go.Proofs.YtakbdknmfaoppaaW.PrintMore
open Go.Lib (hid)
def bh (p k : Int) : Int := (P.sha_behind.f 64 p k).getD 0
theorem bh_ok : primes64.all (fun p => P.sha_behind.f 64 p 2 == some (bh p 2) && P.sha_behind.f 64 p 3 == some (bh p 3)) = true := by decide +kernel
def u1 (ps : List Int) (k : Nat) (hs : List Int) : List Int := if k < 8 then hs.set k (bh (rd ps k) 2) else hs
def t1 (ps : List Int) : Nat → Nat → List Int → List Int
  | 0, _, hs => hs
  | f + 1, k, hs => t1 ps f (k + 1) (u1 ps k hs)
def t2 (ps : List Int) : Nat → Nat → List Int → List Int
  | 0, _, hs => hs
  | f + 1, k, hs => t2 ps f (k + 1) (hs.set k (bh (rd ps k) 3))
def H0 : List Int := t1 primes64 64 0 (List.replicate 8 0)
def K0 : List Int := t2 primes64 64 0 (List.replicate 64 0)
theorem u1_len (ps : List Int) (k : Nat) (hs : List Int) : (u1 ps k hs).length = hs.length := by unfold u1; split <;> simp
theorem H0_len : H0.length = 8 := by decide +kernel
theorem K0_len : K0.length = 64 := by decide +kernel
theorem far_cells {g b : Nat} (hne : g ≠ b) : ∀ (vs : List Value) (o : Nat) (w1 : World), (w1.setCells b o vs).heap[g]? = w1.heap[g]?
  | [], _, _ => rfl
  | v :: vs, o, w1 => (far_cells hne vs (o + 1) _).trans (Below.heap_setCell w1 ⟨b, o, none⟩ v g hne)
set_option maxHeartbeats 2000000 in
set_option maxRecDepth 100000 in
theorem tables.calls (w : World) :
    Calls Try.prog 23 #[] w fun e w' => e = .returned (.tuple #[.agg (cells H0), .agg (cells K0)]) ∧ Below w.heap.size w w' := by
  have hall : Hid (∀ p ∈ primes64, P.sha_behind.f 64 p 2 = some (bh p 2) ∧ P.sha_behind.f 64 p 3 = some (bh p 3)) := hid (fun p hp => by
    have := List.all_eq_true.1 bh_ok p hp
    simpa using this)
  have hpl := primes64_len
  obtain ⟨hs0, hh⟩ : ∃ h, H0 = h := ⟨_, rfl⟩
  obtain ⟨ks0, hk⟩ : ∃ h, K0 = h := ⟨_, rfl⟩
  rw [hh, hk]
  have HQ : Hid (t1 primes64 64 0 (List.replicate 8 0) = hs0 ∧ t2 primes64 64 0 (List.replicate 64 0) = ks0) := hid ⟨hh, hk⟩
  clear hh hk
  have HPc := hid (fun W => primes.calls W)
  generalize primes64 = ps at *
  go_enter Try.func23, Try.ntmps23
  go_wp2_with fail
  refine (HPc.out _).mono ?_
  rintro e w1 ⟨v4, rfl, hR, hB⟩
  obtain ⟨Ao, co, eo⟩ := Kd.R_slice hR
  subst eo
  rw [hpl] at hR ⊢
  have hR := hid hR
  have hsz : (w.alloc (.cells (cells (List.replicate 8 0)) 36)).heap.size = w.heap.size + 1 := by simp
  have hg0 : w1.heap[w.heap.size]? = some (.cells (cells (List.replicate 8 0)) 36 (0, 0)) :=
    (hB.block w.heap.size (by simp; omega)).trans (blk_alloc (blk_new w _) _)
  have hg1 : w1.heap[w.heap.size + 1]? = some (.cells (cells (List.replicate 64 0)) 37 (0, 0)) :=
    (hB.block (w.heap.size + 1) (by simp)).trans (by have := blk_new (w.alloc (.cells (cells (List.replicate 8 0)) 36)) (.cells (cells (List.replicate 64 0)) 37); rw [hsz] at this; exact this)
  have hbw : Below w.heap.size w w1 := below_then (((Below.refl _ _).alloc (Nat.le_refl _) _).alloc (by simp) _) (by simp; omega) hB
  clear hB hsz
  go_wp2_with fail
  go_loopw [2, 3, 6] (fun v2 v3 v6 wr => ∃ (k : Nat) (hs ks : List Int), v6 = .int .i64 (k : Int) ∧ k ≤ 64 ∧ hs.length = 8 ∧ ks.length = 64 ∧ wr.heap[w.heap.size]? = some (.cells (cells hs) 36 (0, 0)) ∧ wr.heap[w.heap.size + 1]? = some (.cells (cells ks) 37 (0, 0)) ∧ Below w.heap.size w wr ∧ Hid (Kd.R (Kd.int .u64) 40 wr ((w.alloc (.cells (cells (List.replicate 8 0)) 36)).alloc (.cells (cells (List.replicate 64 0)) 37)).heap.size (fun _ => True) (.slice Ao 64 co) ps) ∧ Hid (t1 ps (64 - k) k hs = hs0 ∧ t2 ps (64 - k) k ks = ks0)) (fun v2 v3 v6 _ => 64 - (intOf v6).toNat)
  case atStart => exact ⟨0, List.replicate 8 0, List.replicate 64 0, rfl, by decide, by decide, by decide, hg0, hg1, hbw, hR, HQ⟩
  case round =>
    obtain ⟨k, hs, ks, rfl, hk, hl1, hl2, hc0, hc1, hbw, hR, HP⟩ := hrel
    by_cases hlt : k < 64
    · have hlt2 : (k : Int) < 64 := by omega
      obtain ⟨ad, ea, hc⟩ := Kd.at_int (Kd.R_reads' hR.out).2.2 (k : Int) (by omega) (by omega)
      subst ea
      rw [Int.toNat_natCast] at hc
      have hm : rd ps (k : Int) ∈ ps := by
        have hjl : k < ps.length := by omega
        have : rd ps (k : Int) = ps[k] := by simp [rd, hjl]
        rw [this]
        exact List.getElem_mem hjl
      have hbh := hall.out _ hm
      have hB2 := hid (fun W => P.sha_behind.calls 64 (rd ps (k : Int)) 2 _ W hbh.1)
      have hB3 := hid (fun W => P.sha_behind.calls 64 (rd ps (k : Int)) 3 _ W hbh.2)
      clear hbh hm
      have hP := HP.out
      rw [show 64 - k = (64 - (k + 1)) + 1 by omega, t1, t2] at hP
      have hP := hid hP
      have f1 := blk_frozen hc1 k
      have c1 : wr.cell? ⟨w.heap.size + 1, k, none⟩ = some (.int .u32 (ks.getD k 0)) := (blk_cell hc1 k).trans (cells_at ks k (by omega))
      clear HP
      have hul := u1_len ps k hs
      have n1 := hid (fun v => blk_set hc1 k v)
      by_cases h8 : k < 8
      · have h82 : (k : Int) < 8 := by omega
        have f0 := blk_frozen hc0 k
        have c0 : wr.cell? ⟨w.heap.size, k, none⟩ = some (.int .u32 (hs.getD k 0)) := (blk_cell hc0 k).trans (cells_at hs k (by omega))
        have hu : u1 ps k hs = hs.set k (bh (rd ps (k : Int)) 2) := by rw [u1, if_pos h8]
        have hu := hid hu
        generalize bh (rd ps (k : Int)) 2 = b2 at *
        generalize bh (rd ps (k : Int)) 3 = b3 at *
        generalize rd ps (k : Int) = p at *
        have HC := hid (And.intro hc0 (And.intro hc1 hbw))
        clear hc0 hc1 hbw
        go_wp2_with fail
        refine (hB2.out _).mono ?_
        rintro e w2 ⟨rfl, ⟨m1, rfl⟩⟩
        go_wp2_with fail
        have HD : Hid (∃ W2, (wr.drewN m1).setCell ⟨w.heap.size, k, none⟩ (.int .u32 b2) = W2 ∧ W2.heap[w.heap.size]? = some (.cells (cells (u1 ps k hs)) 36 (0, 0)) ∧ W2.heap[w.heap.size + 1]? = some (.cells (cells ks) 37 (0, 0)) ∧ Below w.heap.size w W2 ∧ Kd.R (Kd.int .u64) 40 W2 ((w.alloc (.cells (cells (List.replicate 8 0)) 36)).alloc (.cells (cells (List.replicate 64 0)) 37)).heap.size (fun _ => True) (.slice (some ad) 64 co) ps) := by
          refine hid ⟨_, rfl, ?_, ?_, ?_, ?_⟩
          · rw [hu.out, ← cells_set]
            exact blk_set (blk_drewN HC.out.1 m1) k _
          · exact blk_far (blk_drewN HC.out.2.1 m1) (p := ⟨w.heap.size, k, none⟩) (by simp) _
          · exact (pw_below_drewN HC.out.2.2 m1).setCell (p := ⟨w.heap.size, k, none⟩) (Nat.le_refl _) _
          · exact Kd.R_set (Kd.R_below hR.out (pw_below_drewN (Below.refl _ _) m1)) (blk_drewN HC.out.1 m1) (by decide) k _
        clear f0 c0 f1 c1 HC hR
        obtain ⟨W2, eW, F0, F1, F2, F3⟩ := HD.out
        clear HD
        rw [eW]
        clear eW
        have f1 := blk_frozen F1 k
        have c1 : W2.cell? ⟨w.heap.size + 1, k, none⟩ = some (.int .u32 (ks.getD k 0)) := (blk_cell F1 k).trans (cells_at ks k (by omega))
        generalize u1 ps k hs = hs2 at *
        have HC := hid (And.intro F0 (And.intro F1 (And.intro F2 F3)))
        clear F0 F1 F2 F3 hu hc
        refine (hB3.out _).mono ?_
        rintro e w2 ⟨rfl, ⟨m2, rfl⟩⟩
        go_wp2_with fail
        go_roundw
        case rel => exact ⟨k + 1, hs2, ks.set k b3, by go_num, by omega, by omega, by simpa using hl2, blk_far (blk_drewN HC.out.1 m2) (p := ⟨w.heap.size + 1, k, none⟩) (by simp) _, by rw [← cells_set]; exact blk_set (blk_drewN HC.out.2.1 m2) k _, (pw_below_drewN HC.out.2.2.1 m2).setCell (p := ⟨w.heap.size + 1, k, none⟩) (by simp) _, hid (Kd.R_set (Kd.R_below HC.out.2.2.2 (pw_below_drewN (Below.refl _ _) m2)) (blk_drewN HC.out.2.1 m2) (by decide) k _), hP⟩
        case measure => simp [intOf]; omega
      · have h82 : ¬ (k : Int) < 8 := by omega
        have hu : u1 ps k hs = hs := by rw [u1, if_neg h8]
        rw [hu] at hP
        clear hu
        generalize bh (rd ps (k : Int)) 3 = b3 at *
        generalize rd ps (k : Int) = p at *
        have HC := hid (And.intro hc0 (And.intro hc1 (And.intro hbw hR.out)))
        clear hc0 hc1 hbw hR
        go_wp2_with fail
        refine (hB3.out _).mono ?_
        rintro e w2 ⟨rfl, ⟨m2, rfl⟩⟩
        go_wp2_with fail
        go_roundw
        case rel => exact ⟨k + 1, hs, ks.set k b3, by go_num, by omega, by omega, by simpa using hl2, blk_far (blk_drewN HC.out.1 m2) (p := ⟨w.heap.size + 1, k, none⟩) (by simp) _, by rw [← cells_set]; exact blk_set (blk_drewN HC.out.2.1 m2) k _, (pw_below_drewN HC.out.2.2.1 m2).setCell (p := ⟨w.heap.size + 1, k, none⟩) (by simp) _, hid (Kd.R_set (Kd.R_below HC.out.2.2.2 (pw_below_drewN (Below.refl _ _) m2)) (blk_drewN HC.out.2.1 m2) (by decide) k _), hP⟩
        case measure => simp [intOf]; omega
    · have hk4 : k = 64 := by omega
      subst hk4
      have hP := HP.out
      have e1 : hs = hs0 := hP.1
      have e2 : ks = ks0 := hP.2
      subst e1 e2
      clear HP hP hlt hk
      go_wp2_with fail
      have i36 : (Try.prog.info? 36).map (·.size) = some 8 := by kernel_rfl
      have i37 : (Try.prog.info? 37).map (·.size) = some 64 := by kernel_rfl
      refine start_ (n := 4) (S := fun w' => w'.heap[w.heap.size]? = some (.cells (cells hs) 36 (0, 0)) ∧ w'.heap[w.heap.size + 1]? = some (.cells (cells ks) 37 (0, 0)) ∧ Below w.heap.size w w') (ds := []) #[false, false, false, false] (by kernel_rfl) rfl rfl ⟨hc0, hc1, hbw.drew⟩ (fun hHeld => ?_)
      refine take_ (i := 0) (N := some 22) (v := .agg (cells hs)) (a' := ?_) #[true, false, false, false] rfl rfl (by kernel_rfl) (fun _ _ _ h => h) (yieldsIf_load_mid rfl 36 (.tmp 0) rfl w.heap.size 0 rfl (cells hs).toList _ (fun w' h => cells_range h.1) Try.underlying36 rfl (by rw [Array.length_toList, cells_size, hl1]; exact i36)) hHeld ?_ ?_
      rotate_left
      · simp only [Act.put, List.setIfInBounds_toArray, List.set_cons_zero, List.set_cons_succ, i64_w, i32_w]
        rfl
      refine take_ (i := 1) (N := some 23) (v := .agg (cells ks)) (a' := ?_) #[true, true, false, false] rfl rfl (by kernel_rfl) (fun _ _ _ h => h) (yieldsIf_load_mid rfl 37 (.tmp 1) rfl (w.heap.size + 1) 0 rfl (cells ks).toList _ (fun w' h => cells_range h.2.1) Try.underlying37 rfl (by rw [Array.length_toList, cells_size, hl2]; exact i37)) hHeld ?_ ?_
      rotate_left
      · simp only [Act.put, List.setIfInBounds_toArray, List.set_cons_zero, List.set_cons_succ, i64_w, i32_w]
        rfl
      refine one_ (i := 2) (N := none) #[true, true, true, false] rfl rfl (by kernel_rfl) (by decide) (fun K hK => ?_)
      rw [if_pos (by rfl)]
      refine wp_store_mid 36 (.tmp 0) (.tmp 22) rfl w.heap.size 0 (cells hs) rfl rfl (cells_there hHeld.1) (by rw [cells_size, hl1]; exact i36) (cells_one hs) ?_
      refine hK.out _ _ ⟨setCells_whole hHeld.1 (cells hs) rfl, (far_cells (by simp) _ _ _).trans hHeld.2.1, below_setCells (Nat.le_refl _) _ _ _ hHeld.2.2⟩ (fun hHeld => ?_)
      clear hK K
      refine one_ (i := 3) (N := none) #[true, true, true, true] rfl rfl (by kernel_rfl) (by decide) (fun K hK => ?_)
      rw [if_pos (by rfl)]
      refine wp_store_mid 37 (.tmp 1) (.tmp 23) rfl (w.heap.size + 1) 0 (cells ks) rfl rfl (cells_there hHeld.2.1) (by rw [cells_size, hl2]; exact i37) (cells_one ks) ?_
      refine hK.out _ _ ⟨(far_cells (by simp) _ _ _).trans hHeld.1, setCells_whole hHeld.2.1 (cells ks) rfl, below_setCells (Nat.le_succ _) _ _ _ hHeld.2.2⟩ (fun hHeld => ?_)
      clear hK K
      refine done_ (by kernel_rfl) ?_
      have HH := hid hHeld
      clear hHeld
      go_wp2_with fail
      refine bodyPost_ret (results_c2 rfl _ _ w.heap.size (w.heap.size + 1) 36 37 (cells hs) (cells ks) (0, 0) (0, 0) _ _ rfl HH.out.1 rfl HH.out.2.1 Try.underlying36 rfl (by rw [cells_size, hl1]; exact i36) Try.underlying37 rfl (by rw [cells_size, hl2]; exact i37)) rfl ?_
      exact ⟨rfl, HH.out.2.2⟩
end Go.Proofs.Ytakbdknmfaoppaa.R
