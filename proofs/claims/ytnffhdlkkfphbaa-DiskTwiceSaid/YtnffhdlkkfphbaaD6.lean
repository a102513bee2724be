/-
  A disk's Crash: what its loop keeps.
-/
import Derived.Test.YtnffhdlkkfphbaaD5
import Derived.StillTailTactics
namespace Go.Proofs.Ytnffhdlkkfphbaa.D
set_option linter.unusedVariables false
set_option linter.unusedSimpArgs false
open Go.RowKit Go.Proofs.YtnffhdlkkfphbaaW.PrintWords Go.Proofs.YtnffhdlkkfphbaaW.PrintLast Go.Proofs.YtnffhdlkkfphbaaW.PrintMore
open Go.Lib (hid)
/-- A slice of numbers that is read, in no block of F. -/
def RowA (w : World) (F : Nat → Prop) (A : Option Addr) (ks : List Int) : Prop :=
  ∀ i, i < ks.length → ∃ x, A = some x ∧ ¬ F x.block ∧ w.cell? (x.add i) = some (.int .i64 (ks.getD i 0))
theorem cell_same {w w' : World} {a : Addr} (h : w'.heap[a.block]? = w.heap[a.block]?) : w'.cell? a = w.cell? a := by simp [World.cell?, h]
theorem add_block (a : Addr) (i : Nat) : (a.add i).block = a.block := by unfold Addr.add; split <;> rfl
theorem cell_lt {w : World} {a : Addr} {v : Value} (h : w.cell? a = some v) : a.block < w.heap.size := by
  rcases Nat.lt_or_ge a.block w.heap.size with h1 | h1
  · exact h1
  · simp [World.cell?, Array.getElem?_eq_none h1] at h
theorem RowA.moved {w w' : World} {F F' : Nat → Prop} {A : Option Addr} {ks : List Int} (h : RowA w F A ks) (hb : ∀ i, i < w.heap.size → ¬ F i → w'.heap[i]? = w.heap[i]?) (hF : ∀ i, i < w.heap.size → ¬ F i → ¬ F' i) : RowA w' F' A ks := by
  intro i hi
  obtain ⟨x, h1, h2, h3⟩ := h i hi
  have hl := cell_lt h3
  rw [add_block] at hl
  exact ⟨x, h1, hF _ hl h2, (cell_same (by rw [add_block]; exact hb _ hl h2)).trans h3⟩
theorem RowA.nil (w : World) (F : Nat → Prop) (A : Option Addr) : RowA w F A [] := fun i hi => absurd hi (Nat.not_lt_zero i)
/-- The state of the loop over the loose sectors: only the row of sectors changes. -/
structure Cr (F : Nat → Prop) (w W : World) (d gn gm : Nat) (ov : Value) (Ak : Option Addr) (ks : List Int) (st : St) (now : List ByteArray) : Prop where
  hd : W.heap[d]? = some (.cells #[.slice (some ⟨gn, 0, none⟩) st.now.length st.now.length, .map (some gm), ov, .int .i64 st.fuse, .bool st.gone] 80 (0, 0))
  hs : W.heap[gn]? = some (.cells (now.map Value.string).toArray 9 (0, 0))
  hm : MapS W gm st.loose
  ho : Kd.R (Kd.int .i64) 3 W 0 F ov (st.loose.map (·.1))
  hk : RowA W F Ak ks
  hl : now.length = st.now.length
  hz : ∀ s ∈ now, s.size ≤ 1000000000
  hf : Fr F w W
theorem Cr.drew {F : Nat → Prop} {w W : World} {d gn gm : Nat} {ov : Value} {Ak : Option Addr} {ks : List Int} {st : St} {now : List ByteArray} (h : Cr F w W d gn gm ov Ak ks st now) : Cr F w W.drew d gn gm ov Ak ks st now :=
  ⟨h.hd, h.hs, h.hm.kept rfl, Kd.R_move h.ho (fun _ _ => rfl), h.hk.moved (fun _ _ _ => rfl) (fun _ _ h => h), h.hl, h.hz, h.hf.drewN 1⟩
theorem Cr.set {F : Nat → Prop} {w W : World} {d gn gm : Nat} {ov : Value} {Ak : Option Addr} {ks : List Int} {st : St} {now : List ByteArray} (h : Cr F w W d gn gm ov Ak ks st now) (hg : F gn) (n : Nat) (y : ByteArray) (hy : y.size ≤ 1000000000) :
    Cr F w (W.setCell ⟨gn, n, none⟩ (.string y)) d gn gm ov Ak ks st (now.set n y) := by
  refine ⟨blk_far h.hd (p := ⟨gn, n, none⟩) (blk_ne h.hd h.hs (by decide)) _, ?_, h.hm.kept (Below.heap_setCell W ⟨gn, n, none⟩ _ gm (map_ne h.hs h.hm)), Kd.R_set h.ho h.hs (by decide) n _, h.hk.moved (fun i hi hF => Below.heap_setCell W ⟨gn, n, none⟩ _ i (fun e => hF (by rw [e]; exact hg))) (fun _ _ h => h), by rw [List.length_set]; exact h.hl, ?_, h.hf.set (p := ⟨gn, n, none⟩) hg _⟩
  · have := blk_set h.hs n (.string y)
    rw [List.map_set]
    simpa using this
  · intro x hx
    rcases List.mem_or_eq_of_mem_set hx with h1 | h1
    · exact h.hz x h1
    · rw [h1]; exact hy
theorem MapS.size {w : World} {b : Nat} {L : List (Int × ByteArray)} (h : MapS w b L) (k : Int) : (getS L k).size ≤ 1000000000 := by
  obtain ⟨D, _, _, h3, _⟩ := h
  unfold getS
  cases hq : L.find? (fun p => p.1 == k) with
  | none => decide
  | some p => exact (h3 p (List.mem_of_find?_eq_some hq)).2
/-- Whether the number at place i of keep lets sector i go. -/
def lets (ks : List Int) (i : Nat) : Bool := decide (ks.length ≤ i) || (Go.bits .and .i64 (ks.getD i 0) 1 == 0)
def crashN (L : List (Int × ByteArray)) (ks : List Int) (now : List ByteArray) : Nat → List ByteArray
  | 0 => now
  | i + 1 => if lets ks i then (crashN L ks now i).set ((L.map Prod.fst).getD i 0).toNat (getS L ((L.map Prod.fst).getD i 0)) else crashN L ks now i
/-- Behind the loop all is reset. -/
theorem Cr.fin {F : Nat → Prop} {w W : World} {d gn gm : Nat} {ov : Value} {Ak : Option Addr} {ks : List Int} {st : St} {now : List ByteArray} (h : Cr F w W d gn gm ov Ak ks st now) (f1 : F d) (f2 : F gn) (hlen : 0 < st.now.length ∧ st.now.length ≤ 1000) :
    DiskAt (fun i => F i ∨ w.heap.size ≤ i) (((((W.setCell ⟨d, 1, none⟩ (.map (some W.heap.size))).setCell ⟨d, 2, none⟩ (.slice none 0 0)).setCell ⟨d, 3, none⟩ (.int .i64 (-1))).setCell ⟨d, 4, none⟩ (.bool false)).alloc (.map #[] 0)) d { now := now, loose := [], fuse := -1, gone := false } ∧
    Fr (fun i => F i ∨ w.heap.size ≤ i) w (((((W.setCell ⟨d, 1, none⟩ (.map (some W.heap.size))).setCell ⟨d, 2, none⟩ (.slice none 0 0)).setCell ⟨d, 3, none⟩ (.int .i64 (-1))).setCell ⟨d, 4, none⟩ (.bool false)).alloc (.map #[] 0)) := by
  have hn := blk_ne h.hs h.hd (by decide)
  have hm1 := MapS.new ((((W.setCell ⟨d, 1, none⟩ (.map (some W.heap.size))).setCell ⟨d, 2, none⟩ (.slice none 0 0)).setCell ⟨d, 3, none⟩ (.int .i64 (-1))).setCell ⟨d, 4, none⟩ (.bool false))
  have hz1 : ((((W.setCell ⟨d, 1, none⟩ (.map (some W.heap.size))).setCell ⟨d, 2, none⟩ (.slice none 0 0)).setCell ⟨d, 3, none⟩ (.int .i64 (-1))).setCell ⟨d, 4, none⟩ (.bool false)).heap.size = W.heap.size := by simp
  rw [hz1] at hm1
  have hd := h.hd
  rw [← h.hl] at hd hlen
  exact ⟨⟨gn, W.heap.size, .slice none 0 0, blk_alloc (blk_set (blk_set (blk_set (blk_set hd 1 _) 2 _) 3 _) 4 _) _, blk_alloc (blk_far (blk_far (blk_far (blk_far h.hs (p := ⟨d, 1, none⟩) hn _) (p := ⟨d, 2, none⟩) hn _) (p := ⟨d, 3, none⟩) hn _) (p := ⟨d, 4, none⟩) hn _) _, hm1, Kd.R_nil _ _ _ _ _, .inl f1, .inl f2, .inr h.hf.size, hlen, h.hz, ⟨(by decide : (-1 : Int) ≤ -1), (by decide : (-1 : Int) ≤ 9223372036854775807)⟩, fun p hp => absurd hp List.not_mem_nil⟩,
    (((((h.hf.more (fun _ h => .inl h)).set (p := ⟨d, 1, none⟩) (.inl f1) _).set (p := ⟨d, 2, none⟩) (.inl f1) _).set (p := ⟨d, 3, none⟩) (.inl f1) _).set (p := ⟨d, 4, none⟩) (.inl f1) _).alloc _⟩
end Go.Proofs.Ytnffhdlkkfphbaa.D
