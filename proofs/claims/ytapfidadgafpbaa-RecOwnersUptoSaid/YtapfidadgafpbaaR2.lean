/-
  The walk of the reference's runes: a list of the runes, in memory of its own.
-/
import Derived.Test.YtapfidadgafpbaaR1
namespace Go.Proofs.Ytapfidadgafpbaa.R
set_option linter.unusedVariables false
set_option linter.unusedSimpArgs false
open Go.RowKit Go.Proofs.YtapfidadgafpbaaW.PrintWords Go.Proofs.YtapfidadgafpbaaW.PrintLast Go.Proofs.YtapfidadgafpbaaW.PrintMore
open Go.Lib (hid)
theorem info3 : (Try.prog.info? 3).map (fun i => (i.zero, i.size, i.bytes)) = some (some (.int .i64 0), 1, 8) := by kernel_rfl
theorem iter_ne {w : World} {base k : Nat} {s : ByteArray} {pos : Nat} {v : Value} {xs : List Int} (h : Kd.R (Kd.int .i64) 3 w base (fun _ => True) v xs) (hit : w.heap[k]? = some (.stringIter s pos)) : some k ≠ v.ownBlock := by
  intro e
  obtain ⟨h0, inner, ho, hr⟩ := h
  obtain ⟨cells, hc⟩ := own_typed ho k e.symm
  rw [hit] at hc
  cases hc
def runes.f (s : ByteArray) : Option (List Int) := if s.size ≤ 1000000000 then some ((rns s).map Int.ofNat) else none
set_option maxHeartbeats 4000000 in
set_option maxRecDepth 100000 in
theorem runes.calls (s : ByteArray) (r : List Int) (w : World) (h : runes.f s = some r) :
    Calls Try.prog 65 #[.string s] w fun e w' => ∃ v0_ : Value, e = .returned (v0_) ∧ Kd.R (Kd.int .i64) 3 w' w.heap.size (fun _ => True) v0_ r ∧ Below w.heap.size w w' := by
  unfold runes.f at h
  split at h
  case isFalse => cases h
  rename_i hs
  have hr := hid (Option.some.inj h)
  clear h
  go_enter Try.func65, Try.ntmps65
  go_wp2_with fail
  go_loopw [3] (fun v3 wr => ∃ (pos fuel : Nat) (xs : List Int), Hid (Kd.R (Kd.int .i64) 3 wr w.heap.size (fun _ => True) v3 xs) ∧ wr.heap[w.heap.size]? = some (.stringIter s pos) ∧ Hid (Below w.heap.size w wr) ∧ Hid (xs ++ (rnF s fuel pos).map Int.ofNat = r ∧ s.size ≤ pos + fuel) ∧ Hid (xs.length + fuel ≤ s.size)) (fun _ wr => s.size - wr.iterPos w.heap.size)
  case atStart => exact ⟨0, s.size, [], Kd.R_nil _ _ _ _ _, World.iter_heap w s 0, (Below.refl _ _).alloc (Nat.le_refl _) _, ⟨hr, by omega⟩, by show 0 + s.size ≤ s.size; omega⟩
  case round =>
    obtain ⟨pos, fuel, xs, hR, hit, hbw, hQ, hl⟩ := hrel
    have hpos0 := iterPos_of hit
    by_cases hp : pos < s.size
    · have hnx : ∀ ty, (Instr.next (.pointer (some ⟨w.heap.size, 0, none⟩)) true ty).run Try.prog wr = _ := fun ty => Lib.run_next_any_at wr w.heap.size s pos ty hit hp
      have hit2 := hid (Lib.iterAt_heap wr w.heap.size s pos (pos + (Utf8.decode s pos).2) hit)
      have hbw2 := hid (Lib.below_iterAt hbw (k := w.heap.size) (Nat.le_refl _) s (pos + (Utf8.decode s pos).2))
      have hR2 := hid (Kd.R_mono (ok' := fun _ => True) (Kd.R_move (w1 := wr.iterAt w.heap.size s (pos + (Utf8.decode s pos).2)) (Kd.R_bound hR.out) (fun k hk => by
        obtain ⟨_, _, _, q, _, cells, hc⟩ := hk
        exact Lib.iterAt_other _ _ _ _ _ (by rintro rfl; rw [hit] at hc; cases hc))) (fun _ _ => trivial))
      have hwd := width_pos s pos hp
      have hd := decode_le s pos
      obtain ⟨f, rfl⟩ : ∃ f, fuel = f + 1 := ⟨fuel - 1, by have := hQ.out.2; omega⟩
      have hQ1 := hQ.out.1
      have hQ2 : s.size ≤ pos + (Utf8.decode s pos).2 + f := by have := hQ.out.2; omega
      rw [rnF, if_pos hp, List.map_cons] at hQ1
      clear hQ hit hbw hR
      generalize (Utf8.decode s pos).1 = c at *
      generalize (Utf8.decode s pos).2 = n at *
      have hQ3 := hid (And.intro hQ1 hQ2)
      clear hQ1 hQ2
      have hc1 : wrap64 (c : Int) = (c : Int) := by unfold wrap64; omega
      go_wp2_with ((with_reducible refine gate_builtin (b := .append) rfl ?_); refine Kd.R_append (Kd.int .i64) (w0 := w) w.heap.size (by rfl) (.tmp 11) (.tmp 14) 104 3 (.int .i64 0) 8 rfl Try.underlying104 info3 rfl (by decide) (by omega) _ xs (c : Int) [.int .i64 c] (fun _ => True) (fun _ => False) rfl rfl ?aP (fun _ hk => hk.elim) ?aF ?aO ?aB ?aS ?aL ?_; (case aP => exact rfl); (case aB => exact hbw2.out); (case aF => exact (fun _ _ => trivial)); (case aO => exact hR2.out); (case aS => exact hbw2.out.size); (case aL => have := hl.out; omega); intro v9 w9 ho hb hg hat; have hit9 := hid ((hg.block _ (blk_lt hit2.out) (iter_ne hR2.out hit2.out)).trans hit2.out); replace ho := hid ho; replace hb := hid hb; clear hg hat)
      go_roundw
      case rel => exact ⟨pos + n, f, xs ++ [(c : Int)], ho, hit9, hb, ⟨by rw [List.append_assoc]; exact hQ3.out.1, hQ3.out.2⟩, by have := hl.out; show (xs ++ [(c : Int)]).length + f ≤ s.size; rw [List.length_append]; simp; omega⟩
      case measure =>
        rw [iterPos_of hit9.out, hpos0]
        omega
    · have hnx : ∀ ty, (Instr.next (.pointer (some ⟨w.heap.size, 0, none⟩)) true ty).run Try.prog wr = _ := fun ty => Lib.run_next_end_at wr w.heap.size s pos ty hit hp
      have hQ1 := hQ.out.1
      rw [rnF_end s fuel pos hp, List.map_nil, List.append_nil] at hQ1
      subst hQ1
      clear hQ
      go_wp2_with fail
      go_ret
      exact ⟨_, rfl, hR.out, hbw.out⟩
end Go.Proofs.Ytapfidadgafpbaa.R
