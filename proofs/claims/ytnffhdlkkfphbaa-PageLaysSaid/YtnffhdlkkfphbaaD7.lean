/-
  A disk's Crash: what its loop keeps.
  The walk of a disk's Crash.
-/
import Derived.Test.YtnffhdlkkfphbaaD5
import Derived.StillTailTactics
namespace Go.Proofs.Ytnffhdlkkfphbaa.D
set_option linter.unusedVariables false
set_option linter.unusedSimpArgs false
open Go.RowKit Go.Proofs.YtnffhdlkkfphbaaW.PrintWords Go.Proofs.YtnffhdlkkfphbaaW.PrintLast Go.Proofs.YtnffhdlkkfphbaaW.PrintMore
open Go.Lib (hid)
/-- A slice of numbers that is read, in no block of F. -/
def RowA (w : World) (F : Nat → Prop) (A : Option Addr) (ks : List Int) : Prop :=
  ∀ i, i < ks.length → ∃ x, A = some x ∧ ¬ F x.block ∧ w.cell? (x.add i) = some (.int .i64 (ks.getD i 0))
theorem cell_same {w w' : World} {a : Addr} (h : w'.heap[a.block]? = w.heap[a.block]?) : w'.cell? a = w.cell? a := by simp [World.cell?, h]
theorem add_block (a : Addr) (i : Nat) : (a.add i).block = a.block := by unfold Addr.add; split <;> rfl
theorem cell_lt {w : World} {a : Addr} {v : Value} (h : w.cell? a = some v) : a.block < w.heap.size := by
  rcases Nat.lt_or_ge a.block w.heap.size with h1 | h1
  · exact h1
  · simp [World.cell?, Array.getElem?_eq_none h1] at h
theorem RowA.moved {w w' : World} {F F' : Nat → Prop} {A : Option Addr} {ks : List Int} (h : RowA w F A ks) (hb : ∀ i, i < w.heap.size → ¬ F i → w'.heap[i]? = w.heap[i]?) (hF : ∀ i, i < w.heap.size → ¬ F i → ¬ F' i) : RowA w' F' A ks := by
  intro i hi
  obtain ⟨x, h1, h2, h3⟩ := h i hi
  have hl := cell_lt h3
  rw [add_block] at hl
  exact ⟨x, h1, hF _ hl h2, (cell_same (by rw [add_block]; exact hb _ hl h2)).trans h3⟩
theorem RowA.nil (w : World) (F : Nat → Prop) (A : Option Addr) : RowA w F A [] := fun i hi => absurd hi (Nat.not_lt_zero i)
/-- The state of the loop over the loose sectors: only the row of sectors changes. -/
structure Cr (F : Nat → Prop) (w W : World) (d gn gm : Nat) (ov : Value) (Ak : Option Addr) (ks : List Int) (st : St) (now : List ByteArray) : Prop where
  hd : W.heap[d]? = some (.cells #[.slice (some ⟨gn, 0, none⟩) st.now.length st.now.length, .map (some gm), ov, .int .i64 st.fuse, .bool st.gone] 80 (0, 0))
  hs : W.heap[gn]? = some (.cells (now.map Value.string).toArray 9 (0, 0))
  hm : MapS W gm st.loose
  ho : Kd.R (Kd.int .i64) 3 W 0 F ov (st.loose.map (·.1))
  hk : RowA W F Ak ks
  hl : now.length = st.now.length
  hz : ∀ s ∈ now, s.size ≤ 1000000000
  hf : Fr F w W
theorem Cr.drew {F : Nat → Prop} {w W : World} {d gn gm : Nat} {ov : Value} {Ak : Option Addr} {ks : List Int} {st : St} {now : List ByteArray} (h : Cr F w W d gn gm ov Ak ks st now) : Cr F w W.drew d gn gm ov Ak ks st now :=
  ⟨h.hd, h.hs, h.hm.kept rfl, Kd.R_move h.ho (fun _ _ => rfl), h.hk.moved (fun _ _ _ => rfl) (fun _ _ h => h), h.hl, h.hz, h.hf.drewN 1⟩
theorem Cr.set {F : Nat → Prop} {w W : World} {d gn gm : Nat} {ov : Value} {Ak : Option Addr} {ks : List Int} {st : St} {now : List ByteArray} (h : Cr F w W d gn gm ov Ak ks st now) (hg : F gn) (n : Nat) (y : ByteArray) (hy : y.size ≤ 1000000000) :
    Cr F w (W.setCell ⟨gn, n, none⟩ (.string y)) d gn gm ov Ak ks st (now.set n y) := by
  refine ⟨blk_far h.hd (p := ⟨gn, n, none⟩) (blk_ne h.hd h.hs (by decide)) _, ?_, h.hm.kept (Below.heap_setCell W ⟨gn, n, none⟩ _ gm (map_ne h.hs h.hm)), Kd.R_set h.ho h.hs (by decide) n _, h.hk.moved (fun i hi hF => Below.heap_setCell W ⟨gn, n, none⟩ _ i (fun e => hF (by rw [e]; exact hg))) (fun _ _ h => h), by rw [List.length_set]; exact h.hl, ?_, h.hf.set (p := ⟨gn, n, none⟩) hg _⟩
  · have := blk_set h.hs n (.string y)
    rw [List.map_set]
    simpa using this
  · intro x hx
    rcases List.mem_or_eq_of_mem_set hx with h1 | h1
    · exact h.hz x h1
    · rw [h1]; exact hy
theorem MapS.size {w : World} {b : Nat} {L : List (Int × ByteArray)} (h : MapS w b L) (k : Int) : (getS L k).size ≤ 1000000000 := by
  obtain ⟨D, _, _, h3, _⟩ := h
  unfold getS
  cases hq : L.find? (fun p => p.1 == k) with
  | none => decide
  | some p => exact (h3 p (List.mem_of_find?_eq_some hq)).2
/-- Whether the number at place i of keep lets sector i go. -/
def lets (ks : List Int) (i : Nat) : Bool := decide (ks.length ≤ i) || (Go.bits .and .i64 (ks.getD i 0) 1 == 0)
def crashN (L : List (Int × ByteArray)) (ks : List Int) (now : List ByteArray) : Nat → List ByteArray
  | 0 => now
  | i + 1 => if lets ks i then (crashN L ks now i).set ((L.map Prod.fst).getD i 0).toNat (getS L ((L.map Prod.fst).getD i 0)) else crashN L ks now i
/-- Behind the loop all is reset. -/
theorem Cr.fin {F : Nat → Prop} {w W : World} {d gn gm : Nat} {ov : Value} {Ak : Option Addr} {ks : List Int} {st : St} {now : List ByteArray} (h : Cr F w W d gn gm ov Ak ks st now) (f1 : F d) (f2 : F gn) (hlen : 0 < st.now.length ∧ st.now.length ≤ 1000) :
    DiskAt (fun i => F i ∨ w.heap.size ≤ i) (((((W.setCell ⟨d, 1, none⟩ (.map (some W.heap.size))).setCell ⟨d, 2, none⟩ (.slice none 0 0)).setCell ⟨d, 3, none⟩ (.int .i64 (-1))).setCell ⟨d, 4, none⟩ (.bool false)).alloc (.map #[] 0)) d { now := now, loose := [], fuse := -1, gone := false } ∧
    Fr (fun i => F i ∨ w.heap.size ≤ i) w (((((W.setCell ⟨d, 1, none⟩ (.map (some W.heap.size))).setCell ⟨d, 2, none⟩ (.slice none 0 0)).setCell ⟨d, 3, none⟩ (.int .i64 (-1))).setCell ⟨d, 4, none⟩ (.bool false)).alloc (.map #[] 0)) := by
  have hn := blk_ne h.hs h.hd (by decide)
  have hm1 := MapS.new ((((W.setCell ⟨d, 1, none⟩ (.map (some W.heap.size))).setCell ⟨d, 2, none⟩ (.slice none 0 0)).setCell ⟨d, 3, none⟩ (.int .i64 (-1))).setCell ⟨d, 4, none⟩ (.bool false))
  have hz1 : ((((W.setCell ⟨d, 1, none⟩ (.map (some W.heap.size))).setCell ⟨d, 2, none⟩ (.slice none 0 0)).setCell ⟨d, 3, none⟩ (.int .i64 (-1))).setCell ⟨d, 4, none⟩ (.bool false)).heap.size = W.heap.size := by simp
  rw [hz1] at hm1
  have hd := h.hd
  rw [← h.hl] at hd hlen
  exact ⟨⟨gn, W.heap.size, .slice none 0 0, blk_alloc (blk_set (blk_set (blk_set (blk_set hd 1 _) 2 _) 3 _) 4 _) _, blk_alloc (blk_far (blk_far (blk_far (blk_far h.hs (p := ⟨d, 1, none⟩) hn _) (p := ⟨d, 2, none⟩) hn _) (p := ⟨d, 3, none⟩) hn _) (p := ⟨d, 4, none⟩) hn _) _, hm1, Kd.R_nil _ _ _ _ _, .inl f1, .inl f2, .inr h.hf.size, hlen, h.hz, ⟨(by decide : (-1 : Int) ≤ -1), (by decide : (-1 : Int) ≤ 9223372036854775807)⟩, fun p hp => absurd hp List.not_mem_nil⟩,
    (((((h.hf.more (fun _ h => .inl h)).set (p := ⟨d, 1, none⟩) (.inl f1) _).set (p := ⟨d, 2, none⟩) (.inl f1) _).set (p := ⟨d, 3, none⟩) (.inl f1) _).set (p := ⟨d, 4, none⟩) (.inl f1) _).alloc _⟩
set_option maxRecDepth 100000 in
theorem Crash.calls (F : Nat → Prop) (d : Nat) (st : St) (Ak : Option Addr) (ck : Nat) (ks : List Int) (w : World) (h : DiskAt F w d st) (hk : RowA w F Ak ks) (hll : st.loose.length ≤ 100000) :
    Calls Try.prog 28 #[.pointer (some ⟨d, 0, none⟩), .slice Ak ks.length ck] w fun e w' => e = .returned (.tuple #[]) ∧ DiskAt (fun i => F i ∨ w.heap.size ≤ i) w' d { now := crashN st.loose ks st.now st.loose.length, loose := [], fuse := -1, gone := false } ∧ Fr (fun i => F i ∨ w.heap.size ≤ i) w w' := by
  obtain ⟨gn, gm, ov, hd, hsx, hmp, ho, f1, f2, f3, hlen, hz, hf, hr⟩ := h
  have hC : Hid (Cr F w w d gn gm ov Ak ks st st.now) := hid ⟨hd, hsx, hmp, ho, hk, rfl, hz, Fr.refl F w⟩
  have c2 : w.cell? ⟨d, 2, none⟩ = some ov := (blk_cell hd 2).trans rfl
  have HP := hid (And.intro f1 (And.intro f2 (And.intro f3 (And.intro hlen (And.intro hf hr)))))
  obtain ⟨A, c, he⟩ := Kd.R_slice ho
  clear hd hsx hmp ho f1 f2 f3 hlen hz hf hr hk
  subst he
  have hLL : Hid ((st.loose.map (·.1)).length = st.loose.length) := hid (by rw [List.length_map])
  go_enter Try.func28, Try.ntmps28
  go_wp2_with fail
  go_loopg [11] st.loose.length (fun g v11 wr => ∃ (i : Nat), v11 = .int .i64 (i : Int) ∧ i + g = st.loose.length ∧ Hid (Cr F w wr d gn gm (.slice A (st.loose.map (·.1)).length c) Ak ks st (crashN st.loose ks st.now i)))
  case atStart => exact ⟨0, rfl, by omega, hC⟩
  case round =>
    obtain ⟨i, rfl, hi, hW⟩ := hrel
    cases gk with
    | zero =>
      have hil : i = st.loose.length := by omega
      subst hil
      have HZ := hid (hW.out.fin HP.out.1 HP.out.2.1 HP.out.2.2.2.1)
      have hd := hW.out.hd
      have k1 : wr.cell? ⟨d, 1, none⟩ = some (.map (some gm)) := (blk_cell hd 1).trans rfl
      have k2 : wr.cell? ⟨d, 2, none⟩ = some (.slice A (st.loose.map (·.1)).length c) := (blk_cell hd 2).trans rfl
      have k3 : wr.cell? ⟨d, 3, none⟩ = some (.int .i64 st.fuse) := (blk_cell hd 3).trans rfl
      have k4 : wr.cell? ⟨d, 4, none⟩ = some (.bool st.gone) := (blk_cell hd 4).trans rfl
      have q1 := blk_frozen hd 1
      have q2 := blk_frozen hd 2
      have q3 := blk_frozen hd 3
      have q4 := blk_frozen hd 4
      have hlt := blk_lt hd
      have hne : d ≠ wr.heap.size := by omega
      have hmm := @run_makeMap Try.prog
      have hq : ¬ ((st.loose.length : Int) < ((st.loose.map (·.1)).length : Int)) := by rw [hLL.out]; omega
      clear hd hW
      go_wp2_with fail
      go_end0
      exact ⟨rfl, HZ.out.1, HZ.out.2⟩
    | succ g =>
      obtain ⟨ad, ea, hc⟩ := Kd.at_int (Kd.R_reads' hW.out.ho).2.2 (i : Int) (by omega) (by rw [hLL.out]; omega)
      subst ea
      rw [Int.toNat_natCast] at hc
      have hlt : (i : Int) < ((st.loose.map (·.1)).length : Int) := by rw [hLL.out]; omega
      have hlt' : i < (st.loose.map (·.1)).length := by rw [hLL.out]; omega
      have hrd : rd (st.loose.map (·.1)) (i : Int) = (st.loose.map Prod.fst).getD i 0 := rfl
      have hmem : rd (st.loose.map (·.1)) (i : Int) ∈ st.loose.map (·.1) := by
        rw [hrd]
        simp only [List.getD_eq_getElem?_getD, List.getElem?_eq_getElem hlt', Option.getD_some]
        exact List.getElem_mem hlt'
      obtain ⟨p, hp, hpe⟩ := List.mem_map.1 hmem
      have hrg := HP.out.2.2.2.2.2 p hp
      rw [hpe] at hrg
      obtain ⟨nn, hnn⟩ : ∃ nn : Nat, rd (st.loose.map (·.1)) (i : Int) = (nn : Int) := ⟨_, (Int.toNat_of_nonneg hrg.1).symm⟩
      have hq2 : Hid ((st.loose.map Prod.fst).getD i 0 = (nn : Int)) := hid (hrd.symm.trans hnn)
      rw [hnn] at hc hrg
      have hd := hW.out.hd
      have k0 : wr.cell? ⟨d, 0, none⟩ = some (.slice (some ⟨gn, 0, none⟩) st.now.length st.now.length) := (blk_cell hd 0).trans rfl
      have k1 : wr.cell? ⟨d, 1, none⟩ = some (.map (some gm)) := (blk_cell hd 1).trans rfl
      have hlk := (hW.out.drew.hm).look (k := (nn : Int)) ⟨by omega, by have := HP.out.2.2.2.1.2; omega⟩
      have hnl : nn < (crashN st.loose ks st.now i).length := by rw [hW.out.hl]; omega
      have ks0 : wr.cell? ⟨gn, nn, none⟩ = some (.string ((crashN st.loose ks st.now i).getD nn ⟨#[]⟩)) := (blk_cell hW.out.hs nn).trans (strs_at _ _ hnl)
      have kf := blk_frozen hW.out.hs nn
      have HS := hid (hW.out.drew.set HP.out.2.1 nn (getS st.loose (nn : Int)) (hW.out.hm.size _))
      have hm1 : st.now.length ≤ 1000 := HP.out.2.2.2.1.2
      generalize (crashN st.loose ks st.now i).getD nn ⟨#[]⟩ = x at ks0
      clear hd hmem hpe hp hrd hnn hnl hlt'
      by_cases hki : ks.length ≤ i
      · have h1 : (ks.length : Int) ≤ (i : Int) := by omega
        have hle : Hid (lets ks i = true) := hid (by simp [lets, hki])
        go_upto_region 4 with fail
        refine still_tail 11 (by kernel_rfl) (by kernel_rfl) ?_
        simp only [List.take_succ_cons, List.take_zero, List.drop_succ_cons, List.drop_zero]
        repeat still_step
        refine wpStill_nil ?_
        go_wp2_with fail
        go_roundg g
        case measure => omega
        case rel =>
          refine ⟨i + 1, by first | rfl | simp, by omega, ?_⟩
          have e : crashN st.loose ks st.now (i + 1) = (crashN st.loose ks st.now i).set nn (getS st.loose (nn : Int)) := by
            rw [crashN, if_pos hle.out, hq2.out, Int.toNat_natCast]
          rw [e]
          exact HS
      · have h1 : ¬ ((ks.length : Int) ≤ (i : Int)) := by omega
        obtain ⟨adk, ek, _, hck⟩ := hW.out.hk i (by omega)
        subst ek
        replace hck : wr.cell? (adk.add i) = some (.int .i64 (rd ks (i : Int))) := hck
        have hlk2 : (i : Int) < (ks.length : Int) := by omega
        by_cases hb : Go.bits .and .i64 (rd ks (i : Int)) 1 = 0
        · have hle : Hid (lets ks i = true) := hid (by
            have : Go.bits .and .i64 (ks.getD i 0) 1 = 0 := hb
            simp only [lets, this]; simp)
          go_upto_region 4 with fail
          refine still_tail 11 (by kernel_rfl) (by kernel_rfl) ?_
          simp only [List.take_succ_cons, List.take_zero, List.drop_succ_cons, List.drop_zero]
          repeat still_step
          refine wpStill_nil ?_
          go_wp2_with fail
          go_roundg g
          case measure => omega
          case rel =>
            refine ⟨i + 1, by first | rfl | simp, by omega, ?_⟩
            have e : crashN st.loose ks st.now (i + 1) = (crashN st.loose ks st.now i).set nn (getS st.loose (nn : Int)) := by
              rw [crashN, if_pos hle.out, hq2.out, Int.toNat_natCast]
            rw [e]
            exact HS
        · have hle : Hid (lets ks i = false) := hid (by
            have : ¬ Go.bits .and .i64 (ks.getD i 0) 1 = 0 := hb
            simp only [lets, Bool.or_eq_false_iff]
            exact ⟨decide_eq_false (by omega), by simpa using this⟩)
          go_wp2_with fail
          go_roundg g
          case measure => omega
          case rel =>
            refine ⟨i + 1, by first | rfl | simp, by omega, ?_⟩
            have e : crashN st.loose ks st.now (i + 1) = crashN st.loose ks st.now i := by
              rw [crashN, if_neg (by rw [hle.out]; decide)]
            rw [e]
            exact hW
end Go.Proofs.Ytnffhdlkkfphbaa.D
