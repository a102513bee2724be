/-
  Decode at the chapter's example.
  examples.
-/
import Derived.Test.YtnghbfegijnolaaAb
import Derived.Test.YtnghbfegijnolaaAc
namespace Go.Proofs.Ytnghbfegijnolaa.A
set_option linter.unusedVariables false
set_option linter.unusedSimpArgs false
open Go.RowKit Go.Proofs.YtnghbfegijnolaaW.PrintWords Go.Proofs.YtnghbfegijnolaaW.PrintLast Go.Proofs.YtnghbfegijnolaaW.PrintMore
open Go.Lib (hid)
theorem C_no {α : Type} {enc : α → Value} {h1 : ∀ x, (enc x).oneCell' = true} {w : World} {A : Option Addr} {n : Nat} {xs : List α} {g t : Nat} {cs : Array Value} (hno : ∀ (i : Nat) x, cs[i]? ≠ some (enc x))
    (h : (Kd.scalar enc h1).C w A n xs) (hb : w.heap[g]? = some (.cells cs t (0, 0))) : n = 0 ∨ ∀ ad, A = some ad → ad.block ≠ g := by
  rcases Nat.eq_zero_or_pos n with h0 | hp
  · exact .inl h0
  · refine .inr fun ad e he => ?_
    subst e
    have hl : 0 < xs.length := by have := h.1; omega
    obtain ⟨ad', e', hc⟩ := C_one h xs[0] 0 hl
    injection e' with e'
    subst e'
    have ha : (ad.add 0).block = g := by rw [← he]; unfold Addr.add; split <;> rfl
    have hh : w.heap[(ad.add 0).block]? = some (.cells cs t (0, 0)) := by rw [ha]; exact hb
    generalize ad.add 0 = q at hc hh
    unfold World.cell? at hc
    rw [hh] at hc
    simp only at hc
    split at hc
    · cases hc
    · exact hno _ _ hc
theorem C_keep {α : Type} {enc : α → Value} {h1 : ∀ x, (enc x).oneCell' = true} {w w' : World} {A : Option Addr} {n : Nat} {xs : List α} (h : (Kd.scalar enc h1).C w A n xs) (hk : n = 0 ∨ ∀ ad, A = some ad → ad.block < w.heap.size → w'.heap[ad.block]? = w.heap[ad.block]?) : (Kd.scalar enc h1).C w' A n xs := by
  rcases hk with rfl | hk
  · exact ⟨h.1, h.2.1, fun hn => absurd hn (Nat.lt_irrefl 0)⟩
  · refine ⟨h.1, h.2.1, fun hn => ?_⟩
    obtain ⟨ad, e, hc⟩ := h.2.2 hn
    refine ⟨ad, e, fun j p hj => ?_⟩
    obtain ⟨c, hs, hr, hcell⟩ := hc j p hj
    refine ⟨c, hs, hr, fun k x hx => ?_⟩
    have hb : (ad.add (j * (Kd.scalar enc h1).sz + k)).block = ad.block := by unfold Addr.add; split <;> rfl
    have h2 := hcell k x hx
    have hlt := World.block_lt_of_cell? w _ h2
    have he := hk ad e (by rw [← hb]; exact hlt)
    rw [← hb] at he
    simpa [World.cell?, he] using h2
theorem C_set1 {α : Type} {enc : α → Value} {h1 : ∀ x, (enc x).oneCell' = true} {w : World} {A : Option Addr} {n : Nat} {xs : List α} {g t : Nat} {b : Bool} {a1 a2 a3 : Option Addr} {n1 n2 n3 c1 c2 c3 : Nat} (hb0 : ∀ x b, enc x ≠ .bool b) (hs0 : ∀ x a n c, enc x ≠ .slice a n c)
    (h : (Kd.scalar enc h1).C w A n xs) (hb : w.heap[g]? = some (.cells #[.bool b, .slice a1 n1 c1, .slice a2 n2 c2, .slice a3 n3 c3] t (0, 0))) (i : Nat) (v : Value) : (Kd.scalar enc h1).C (w.setCell ⟨g, i, none⟩ v) A n xs := by
  rcases C_ne hb0 hs0 h hb with rfl | hf
  · exact ⟨h.1, h.2.1, fun hn => absurd hn (Nat.lt_irrefl 0)⟩
  · exact C_far1 h hf i v
theorem C_rd {w w' : World} {A : Option Addr} {n : Nat} {xs : List Int} {g : Nat} {b b' : ByteArray} {bad bad' : Bool} (h : (Kd.int .u64).C w A n xs) (hb : w.heap[g]? = some (.cells #[.string b, .bool bad] 91 (0, 0))) (hR : Rd g b' bad' w w') : (Kd.int .u64).C w' A n xs := by
  refine C_keep h ?_
  rcases C_no (cs := #[.string b, .bool bad]) (fun i x e => by rcases i with _ | _ | i; cases e; cases e; simp at e) h hb with h0 | hf
  · exact .inl h0
  · exact .inr (fun ad e hl => hR.keep _ hl (hf ad e))
theorem take_a : P.num_Take.f 20 ⟨#[1, 0, 0, 0, 0, 0, 0, 0, 7, 3, 97, 98, 99]⟩ 1 = some (1, ⟨#[0, 0, 0, 0, 0, 0, 0, 7, 3, 97, 98, 99]⟩, 0) := by decide +kernel
theorem take_b : P.num_Take.f 20 ⟨#[0, 0, 0, 0, 0, 0, 0, 7, 3, 97, 98, 99]⟩ 8 = some (7, ⟨#[3, 97, 98, 99]⟩, 0) := by decide +kernel
theorem take_c : P.num_TakeText.f ⟨#[3, 97, 98, 99]⟩ = some (⟨#[97, 98, 99]⟩, ⟨#[]⟩, 0) := by decide +kernel
theorem Rd.refl {g : Nat} {b : ByteArray} {bad : Bool} {W : World} (h : W.heap[g]? = some (.cells #[.string b, .bool bad] 91 (0, 0))) : Rd g b bad W W := ⟨h, rfl, rfl, rfl, Nat.le_refl _, fun _ _ _ => rfl⟩
theorem Rd.step {g : Nat} {b : ByteArray} {bad : Bool} {w W W' : World} (hB : Below w.heap.size w W) (hg : w.heap.size ≤ g) (h : Rd g b bad W W') : Below w.heap.size w W' :=
  ⟨h.os.trans hB.os, h.tape.trans hB.tape, h.output.trans hB.output, Nat.le_trans hB.size h.size, fun i hi => (h.keep i (Nat.lt_of_lt_of_le hi hB.size) (by omega)).trans (hB.block i hi)⟩
set_option maxHeartbeats 1000000 in
set_option maxRecDepth 100000 in
theorem decode_ex (w : World) : Calls Try.prog 19 #[.string ⟨#[1, 0, 0, 0, 0, 0, 0, 0, 7, 3, 97, 98, 99]⟩] w fun e w' => ∃ v', e = .returned (.tuple #[v', .int .i64 0]) ∧ At w' v' exN ∧ Below w.heap.size w w' := by
  have hr : Hid (((w.alloc (.cells #[.bool false, .slice none 0 0, .slice none 0 0, .slice none 0 0] 29)).alloc (.cells #[.string ⟨#[1, 0, 0, 0, 0, 0, 0, 0, 7, 3, 97, 98, 99]⟩, .bool false] 91)).heap[w.heap.size]? = some (.cells #[.bool false, .slice none 0 0, .slice none 0 0, .slice none 0 0] 29 (0, 0))) := hid (alloc2_fst w _ _)
  have hx : Hid (((w.alloc (.cells #[.bool false, .slice none 0 0, .slice none 0 0, .slice none 0 0] 29)).alloc (.cells #[.string ⟨#[1, 0, 0, 0, 0, 0, 0, 0, 7, 3, 97, 98, 99]⟩, .bool false] 91)).heap[w.heap.size + 1]? = some (.cells #[.string ⟨#[1, 0, 0, 0, 0, 0, 0, 0, 7, 3, 97, 98, 99]⟩, .bool false] 91 (0, 0))) := hid (alloc2_snd w _ _)
  have hB := hid (below_alloc (below_alloc (Below.refl w.heap.size w) (.cells #[.bool false, .slice none 0 0, .slice none 0 0, .slice none 0 0] 29)) (.cells #[.string ⟨#[1, 0, 0, 0, 0, 0, 0, 0, 7, 3, 97, 98, 99]⟩, .bool false] 91))
  have HN1 := hid (fun W (h : W.heap[w.heap.size + 1]? = some (.cells #[.string ⟨#[1, 0, 0, 0, 0, 0, 0, 0, 7, 3, 97, 98, 99]⟩, .bool false] 91 (0, 0))) => rnum 20 (w.heap.size + 1) _ false 1 1 _ 0 W W take_a (Rd.refl h))
  have HN2 := hid (fun W (h : W.heap[w.heap.size + 1]? = some (.cells #[.string ⟨#[0, 0, 0, 0, 0, 0, 0, 7, 3, 97, 98, 99]⟩, .bool false] 91 (0, 0))) => rnum 20 (w.heap.size + 1) _ false 8 7 _ 0 W W take_b (Rd.refl h))
  have HT := hid (fun W (h : W.heap[w.heap.size + 1]? = some (.cells #[.string ⟨#[3, 97, 98, 99]⟩, .bool false] 91 (0, 0))) => rtext (w.heap.size + 1) _ false _ _ 0 W W take_c (Rd.refl h))
  have hs : w.heap.size ≤ w.heap.size + 1 := Nat.le_succ _
  go_enter Try.func19, Try.ntmps19
  (try dsimp only [List.append])
  go_upto_region 2 with fail
  generalize (w.alloc (.cells #[.bool false, .slice none 0 0, .slice none 0 0, .slice none 0 0] 29)).alloc (.cells #[.string ⟨#[1, 0, 0, 0, 0, 0, 0, 0, 7, 3, 97, 98, 99]⟩, .bool false] 91) = w1 at *
  go_upto_region 3 with (first | ((with_reducible refine Calls.mono (HN1.out _ hx.out) ?_); rintro r w2 ⟨rfl, hR⟩; replace hr := hid ((hR.keep _ (blk_lt hr.out) (by omega)).trans hr.out); replace hB := hid (hR.step hB.out hs); replace hx := hid hR.hx; clear hR))
  have hn0 : Hid ((w2.alloc (.cells #[.bool true, .slice none 0 0, .slice none 0 0, .slice none 0 0] 29)).heap[w2.heap.size]? = some (.cells #[.bool true, .slice none 0 0, .slice none 0 0, .slice none 0 0] 29 (0, 0))) := hid Array.getElem?_push_size
  have hb0 : w.heap.size + 1 < w2.heap.size := blk_lt hx.out
  replace hx := hid (((below_alloc (Below.refl _ w2) (.cells #[.bool true, .slice none 0 0, .slice none 0 0, .slice none 0 0] 29)).block _ (blk_lt hx.out)).trans hx.out)
  replace hr := hid (((below_alloc (Below.refl _ w2) (.cells #[.bool true, .slice none 0 0, .slice none 0 0, .slice none 0 0] 29)).block _ (blk_lt hr.out)).trans hr.out)
  replace hB := hid (below_alloc hB.out (.cells #[.bool true, .slice none 0 0, .slice none 0 0, .slice none 0 0] 29))
  go_upto_region 4 with fail
  generalize w2.alloc (.cells #[.bool true, .slice none 0 0, .slice none 0 0, .slice none 0 0] 29) = w3 at *
  generalize w2.heap.size = nb at *
  have r0 : w3.cell? ⟨w.heap.size + 1, 0, none⟩ = some (.string ⟨#[0, 0, 0, 0, 0, 0, 0, 7, 3, 97, 98, 99]⟩) := (blk_cell hx.out 0).trans rfl
  have r1 : w3.cell? ⟨w.heap.size + 1, 1, none⟩ = some (.bool false) := (blk_cell hx.out 1).trans rfl
  have n0 : w3.cell? ⟨nb, 0, none⟩ = some (.bool true) := (blk_cell hn0.out 0).trans rfl
  go_wp2_with fail
  clear r0 r1 n0
  have hne1 : Hid (w.heap.size + 1 ≠ nb) := hid (by omega)
  have hne0 : Hid (w.heap.size ≠ nb) := hid (by omega)
  have hnb : Hid (w.heap.size ≤ nb) := hid (by omega)
  clear hb0
  go_loopg [43] 1 (fun g v43 wr => Hid (Below w.heap.size w wr) ∧ Hid (wr.heap[w.heap.size]? = some (.cells #[.bool false, .slice none 0 0, .slice none 0 0, .slice none 0 0] 29 (0, 0))) ∧ ((g = 1 ∧ Hid (wr.heap[w.heap.size + 1]? = some (.cells #[.string ⟨#[0, 0, 0, 0, 0, 0, 0, 7, 3, 97, 98, 99]⟩, .bool false] 91 (0, 0))) ∧ Hid (wr.heap[nb]? = some (.cells #[.bool true, .slice none 0 0, .slice none 0 0, .slice none 0 0] 29 (0, 0)))) ∨ (g = 0 ∧ Hid (wr.heap[w.heap.size + 1]? = some (.cells #[.string ⟨#[]⟩, .bool false] 91 (0, 0))) ∧ ∃ (A1 A2 : Option Addr) (c1 c2 : Nat), Hid (wr.heap[nb]? = some (.cells #[.bool true, .slice A1 1 c1, .slice A2 1 c2, .slice none 0 0] 29 (0, 0))) ∧ Hid (At wr (.agg #[.bool true, .slice A1 1 c1, .slice A2 1 c2, .slice none 0 0]) exN))))
  case atStart => exact ⟨hB, hr, .inl ⟨rfl, hx, hn0⟩⟩
  case round =>
    clear hB hr hx hn0
    obtain ⟨hB, hr, hcase⟩ := hrel
    rcases hcase with ⟨rfl, hx, hn⟩ | ⟨rfl, hx, A1, A2, c1, c2, hn, hA⟩
    · have r0 : wr.cell? ⟨w.heap.size + 1, 0, none⟩ = some (.string ⟨#[0, 0, 0, 0, 0, 0, 0, 7, 3, 97, 98, 99]⟩) := (blk_cell hx.out 0).trans rfl
      have r1 : wr.cell? ⟨w.heap.size + 1, 1, none⟩ = some (.bool false) := (blk_cell hx.out 1).trans rfl
      go_upto_region 9 with fail
      clear r0 r1
      refine start_ (n := 8) (S := fun w' => w'.heap[nb]? = some (.cells #[.bool true, .slice none 0 0, .slice none 0 0, .slice none 0 0] 29 (0, 0))) (ds := [7]) #[false, false, false, false, false, false, false, false] (by kernel_rfl) rfl rfl hn.out (fun hHeld => ?_)
      refine pure_ (i := 0) (N := some 51) (v := ?_) (a' := ?_) #[true, false, false, false, false, false, false, false] rfl rfl (by kernel_rfl) (fun _ _ _ h => h) (Or.inl ⟨by rfl, ?_⟩) ?_ ?_
      rotate_left
      · intro w'
        go_simp
        with_reducible rfl
      rotate_left
      · simp only [Act.put, List.setIfInBounds_toArray, List.set_cons_zero, List.set_cons_succ, i64_w, i32_w]
        rfl
      refine take_ (i := 1) (N := some 52) (v := ?_) (a' := ?_) #[true, true, false, false, false, false, false, false] rfl rfl (by kernel_rfl) (fun _ _ _ h => h) (Or.inl ⟨by rfl, ?_⟩) hHeld ?_ ?_
      rotate_left
      · rintro w' hb'
        have dd : w'.cell? ⟨nb, 1, none⟩ = some (.slice none 0 0) := (blk_cell hb' 1).trans rfl
        go_simp
        with_reducible rfl
      rotate_left
      · simp only [Act.put, List.setIfInBounds_toArray, List.set_cons_zero, List.set_cons_succ, i64_w, i32_w]
        rfl
      refine pure_ (i := 2) (N := some 53) (v := ?_) (a' := ?_) #[true, true, true, false, false, false, false, false] rfl rfl (by kernel_rfl) (fun _ _ _ h => h) (Or.inl ⟨by rfl, ?_⟩) ?_ ?_
      rotate_left
      · intro w'
        go_simp
        with_reducible rfl
      rotate_left
      · simp only [Act.put, List.setIfInBounds_toArray, List.set_cons_zero, List.set_cons_succ, i64_w, i32_w]
        rfl
      refine one_ (i := 3) (N := some 54) #[true, true, true, true, false, false, false, false] rfl rfl (by kernel_rfl) (by decide) (fun K hK => ?_)
      refine goes_ Try.func45 (by kernel_rfl) rfl #[.pointer (some ⟨w.heap.size + 1, 0, none⟩), .int .i64 8] (by rfl) rfl rfl (by (try simp only [List.map_toArray, List.map_cons, List.map_nil]); first | done | rfl) ?_
      refine (HN2.out wr.drew hx.out).mono ?_
      rintro r w5 ⟨rfl, hR⟩
      have hn5 := hid ((hR.keep nb (blk_lt hn.out) (fun e => hne1.out e.symm)).trans hn.out)
      have hr5 := hid ((hR.keep _ (blk_lt hr.out) (Nat.ne_of_lt (Nat.lt_succ_self _))).trans hr.out)
      have hB5 := hid (hR.step (below_drew hB.out) hs)
      have hx5 : Hid (w5.heap[w.heap.size + 1]? = some (.cells #[.string ⟨#[3, 97, 98, 99]⟩, .bool false] 91 (0, 0))) := hid hR.hx
      clear hR
      refine ⟨_, rfl, ?_⟩
      refine hK.out _ _ hn5.out (fun hHeld => ?_)
      clear hK K
      refine norm_ (a' := ?_) ?_ ?_
      rotate_left
      · show Act.put _ (some 54) _ = _
        simp only [Act.put, List.setIfInBounds_toArray, List.set_cons_zero, List.set_cons_succ, i64_w, i32_w]
        rfl
      refine one_ (i := 4) (N := some 55) #[true, true, true, true, true, false, false, false] rfl rfl (by kernel_rfl) (by decide) (fun K hK => ?_)
      refine value_ (w1 := ?_) (v := ?_) (by rfl) rfl ?_ ?_
      rotate_left 2
      · go_simp
        constructor
        · rfl
        · rfl
      refine hK.out _ _ (((below_alloc (Below.refl _ w5) _).block _ (blk_lt hn5.out)).trans hn5.out) (fun hHeld => ?_)
      clear hK K
      refine norm_ (a' := ?_) ?_ ?_
      rotate_left
      · show Act.put _ (some 55) _ = _
        simp only [Act.put, List.setIfInBounds_toArray, List.set_cons_zero, List.set_cons_succ, i64_w, i32_w]
        rfl
      refine one_ (i := 5) (N := some 56) #[true, true, true, true, true, true, false, false] rfl rfl (by kernel_rfl) (by decide) (fun K hK => ?_)
      refine Kd.R_append_step (Kd.int .u64) (w0 := w5) w5.heap.size (by rfl) (.tmp 52) (.tmp 55) 25 23 (.int .u64 0) 8 rfl Try.underlying25 (by kernel_rfl) rfl (by decide) (by decide) (.slice none 0 0) [] 7 [.int .u64 7] (fun _ => True) (fun _ => False) rfl rfl rfl (fun _ hk => hk.elim) (fun _ _ => trivial) (Kd.R_nil _ _ _ _ _) (Below.refl _ _) (Nat.le_refl _) (by decide) ?_
      intro v1 w6 ho hb6 hg6 hat6
      clear hg6 hat6
      have ho2 : Kd.R (Kd.int .u64) 23 w6 w5.heap.size (fun _ => True) v1 [7] := ho
      obtain ⟨A5, c5, e5, l5, C5⟩ := Kd.R_reads ho2
      have e6 : v1 = .slice A5 1 c5 := e5
      subst e6
      clear ho ho2 e5
      replace C5 := hid C5
      have lC5 := hid l5
      clear l5
      have hn6 := hid ((hb6.block _ (blk_lt hn5.out)).trans hn5.out)
      have hr6 := hid ((hb6.block _ (blk_lt hr5.out)).trans hr5.out)
      have hx6 := hid ((hb6.block _ (blk_lt hx5.out)).trans hx5.out)
      have hB6 := hid (below_then hB5.out hB5.out.size hb6)
      clear hb6 hn5 hr5 hx5 hB5
      refine hK.out _ _ hn6.out (fun hHeld => ?_)
      clear hK K
      refine norm_ (a' := ?_) ?_ ?_
      rotate_left
      · show Act.put _ (some 56) _ = _
        simp only [Act.put, List.setIfInBounds_toArray, List.set_cons_zero, List.set_cons_succ, i64_w, i32_w]
        rfl
      refine pure_ (i := 6) (N := some 57) (v := ?_) (a' := ?_) #[true, true, true, true, true, true, true, false] rfl rfl (by kernel_rfl) (fun _ _ _ h => h) (Or.inl ⟨by rfl, ?_⟩) ?_ ?_
      rotate_left
      · intro w'
        go_simp
        with_reducible rfl
      rotate_left
      · simp only [Act.put, List.setIfInBounds_toArray, List.set_cons_zero, List.set_cons_succ, i64_w, i32_w]
        rfl
      have y0 : w6.cell? ⟨nb, 0, none⟩ = some (.bool true) := (blk_cell hn6.out 0).trans rfl
      have z0 := blk_frozen hn6.out 0
      have y1 : w6.cell? ⟨nb, 1, none⟩ = some (.slice none 0 0) := (blk_cell hn6.out 1).trans rfl
      have z1 := blk_frozen hn6.out 1
      have y2 : w6.cell? ⟨nb, 2, none⟩ = some (.slice none 0 0) := (blk_cell hn6.out 2).trans rfl
      have z2 := blk_frozen hn6.out 2
      have y3 : w6.cell? ⟨nb, 3, none⟩ = some (.slice none 0 0) := (blk_cell hn6.out 3).trans rfl
      have z3 := blk_frozen hn6.out 3
      refine last_ (i := 7) (N := none) #[true, true, true, true, true, true, true, true] rfl rfl (by kernel_rfl) (by decide) (fun K hK => ?_)
      refine skip_ (w1 := ?_) (by rfl) rfl ?_ ?_
      rotate_left
      · go_simp
        with_reducible rfl
      refine hK.out _ _ ?_
      clear hK K
      refine done_ (by kernel_rfl) ?_
      clear hHeld
      clear y0 z0 y1 z1 y2 z2 y3 z3
      have hn7 := hid (blk_set hn6.out 1 (.slice A5 1 c5))
      have hr7 := hid ((Below.heap_setCell w6 ⟨nb, 1, none⟩ (.slice A5 1 c5) w.heap.size hne0.out).trans hr6.out)
      have hx7 := hid ((Below.heap_setCell w6 ⟨nb, 1, none⟩ (.slice A5 1 c5) (w.heap.size + 1) hne1.out).trans hx6.out)
      have hB7 := hid (below_set hB6.out hnb.out 1 (.slice A5 1 c5))
      have C7 := hid (C_set1 (by intro x b h; cases h) (by intro x a n c h; cases h) C5.out hn6.out 1 (.slice A5 1 c5))
      clear hn hr hx hB hn6 hr6 hx6 hB6 C5
      go_upto_region 10 with fail
      generalize w6.setCell ⟨nb, 1, none⟩ (.slice A5 1 c5) = w7 at *
      have n0 : w7.cell? ⟨nb, 0, none⟩ = some (.bool true) := (blk_cell hn7.out 0).trans rfl
      go_upto_region 11 with fail
      clear n0
      refine start_ (n := 8) (S := fun w' => w'.heap[nb]? = some (.cells #[.bool true, .slice A5 1 c5, .slice none 0 0, .slice none 0 0] 29 (0, 0))) (ds := [7]) #[false, false, false, false, false, false, false, false] (by kernel_rfl) rfl rfl hn7.out (fun hHeld => ?_)
      refine pure_ (i := 0) (N := some 60) (v := ?_) (a' := ?_) #[true, false, false, false, false, false, false, false] rfl rfl (by kernel_rfl) (fun _ _ _ h => h) (Or.inl ⟨by rfl, ?_⟩) ?_ ?_
      rotate_left
      · intro w'
        go_simp
        with_reducible rfl
      rotate_left
      · simp only [Act.put, List.setIfInBounds_toArray, List.set_cons_zero, List.set_cons_succ, i64_w, i32_w]
        rfl
      refine take_ (i := 1) (N := some 61) (v := ?_) (a' := ?_) #[true, true, false, false, false, false, false, false] rfl rfl (by kernel_rfl) (fun _ _ _ h => h) (Or.inl ⟨by rfl, ?_⟩) hHeld ?_ ?_
      rotate_left
      · rintro w' hb'
        have dd : w'.cell? ⟨nb, 2, none⟩ = some (.slice none 0 0) := (blk_cell hb' 2).trans rfl
        go_simp
        with_reducible rfl
      rotate_left
      · simp only [Act.put, List.setIfInBounds_toArray, List.set_cons_zero, List.set_cons_succ, i64_w, i32_w]
        rfl
      refine pure_ (i := 2) (N := some 62) (v := ?_) (a' := ?_) #[true, true, true, false, false, false, false, false] rfl rfl (by kernel_rfl) (fun _ _ _ h => h) (Or.inl ⟨by rfl, ?_⟩) ?_ ?_
      rotate_left
      · intro w'
        go_simp
        with_reducible rfl
      rotate_left
      · simp only [Act.put, List.setIfInBounds_toArray, List.set_cons_zero, List.set_cons_succ, i64_w, i32_w]
        rfl
      refine one_ (i := 3) (N := some 63) #[true, true, true, true, false, false, false, false] rfl rfl (by kernel_rfl) (by decide) (fun K hK => ?_)
      refine goes_ Try.func46 (by kernel_rfl) rfl #[.pointer (some ⟨w.heap.size + 1, 0, none⟩)] (by rfl) rfl rfl (by (try simp only [List.map_toArray, List.map_cons, List.map_nil]); first | done | rfl) ?_
      refine (HT.out w7.drew hx7.out).mono ?_
      rintro r w8 ⟨rfl, hR⟩
      have hn5 := hid ((hR.keep nb (blk_lt hn7.out) (fun e => hne1.out e.symm)).trans hn7.out)
      have hr5 := hid ((hR.keep _ (blk_lt hr7.out) (Nat.ne_of_lt (Nat.lt_succ_self _))).trans hr7.out)
      have hB5 := hid (hR.step (below_drew hB7.out) hs)
      have hx5 : Hid (w8.heap[w.heap.size + 1]? = some (.cells #[.string ⟨#[]⟩, .bool false] 91 (0, 0))) := hid hR.hx
      have C8 := hid (C_rd (w := w7.drew) (Kd.C_below C7.out (below_drew (Below.refl _ _))) hx7.out hR)
      clear hR
      refine ⟨_, rfl, ?_⟩
      refine hK.out _ _ hn5.out (fun hHeld => ?_)
      clear hK K
      refine norm_ (a' := ?_) ?_ ?_
      rotate_left
      · show Act.put _ (some 63) _ = _
        simp only [Act.put, List.setIfInBounds_toArray, List.set_cons_zero, List.set_cons_succ, i64_w, i32_w]
        rfl
      refine one_ (i := 4) (N := some 64) #[true, true, true, true, true, false, false, false] rfl rfl (by kernel_rfl) (by decide) (fun K hK => ?_)
      refine value_ (w1 := ?_) (v := ?_) (by rfl) rfl ?_ ?_
      rotate_left 2
      · go_simp
        constructor
        · rfl
        · rfl
      refine hK.out _ _ (((below_alloc (Below.refl _ w8) _).block _ (blk_lt hn5.out)).trans hn5.out) (fun hHeld => ?_)
      clear hK K
      refine norm_ (a' := ?_) ?_ ?_
      rotate_left
      · show Act.put _ (some 64) _ = _
        simp only [Act.put, List.setIfInBounds_toArray, List.set_cons_zero, List.set_cons_succ, i64_w, i32_w]
        rfl
      refine one_ (i := 5) (N := some 65) #[true, true, true, true, true, true, false, false] rfl rfl (by kernel_rfl) (by decide) (fun K hK => ?_)
      refine Kd.R_append_step (Kd.string) (w0 := w8) w8.heap.size (by rfl) (.tmp 61) (.tmp 64) 26 9 (.string ⟨#[]⟩) 16 rfl Try.underlying26 (by kernel_rfl) rfl (by decide) (by decide) (.slice none 0 0) [] ⟨#[97, 98, 99]⟩ [.string ⟨#[97, 98, 99]⟩] (fun _ => True) (fun _ => False) rfl rfl rfl (fun _ hk => hk.elim) (fun _ _ => trivial) (Kd.R_nil _ _ _ _ _) (Below.refl _ _) (Nat.le_refl _) (by decide) ?_
      intro v1 w9 ho hb6 hg6 hat6
      clear hg6 hat6
      have ho2 : Kd.R (Kd.string) 9 w9 w8.heap.size (fun _ => True) v1 [⟨#[97, 98, 99]⟩] := ho
      obtain ⟨A6, c6, e5, l5, D6⟩ := Kd.R_reads ho2
      have e6 : v1 = .slice A6 1 c6 := e5
      subst e6
      clear ho ho2 e5
      replace D6 := hid D6
      have lD6 := hid l5
      clear l5
      have C9 := hid (Kd.C_below C8.out hb6)
      have hn6 := hid ((hb6.block _ (blk_lt hn5.out)).trans hn5.out)
      have hr6 := hid ((hb6.block _ (blk_lt hr5.out)).trans hr5.out)
      have hx6 := hid ((hb6.block _ (blk_lt hx5.out)).trans hx5.out)
      have hB6 := hid (below_then hB5.out hB5.out.size hb6)
      clear hb6 hn5 hr5 hx5 hB5
      refine hK.out _ _ hn6.out (fun hHeld => ?_)
      clear hK K
      refine norm_ (a' := ?_) ?_ ?_
      rotate_left
      · show Act.put _ (some 65) _ = _
        simp only [Act.put, List.setIfInBounds_toArray, List.set_cons_zero, List.set_cons_succ, i64_w, i32_w]
        rfl
      refine pure_ (i := 6) (N := some 66) (v := ?_) (a' := ?_) #[true, true, true, true, true, true, true, false] rfl rfl (by kernel_rfl) (fun _ _ _ h => h) (Or.inl ⟨by rfl, ?_⟩) ?_ ?_
      rotate_left
      · intro w'
        go_simp
        with_reducible rfl
      rotate_left
      · simp only [Act.put, List.setIfInBounds_toArray, List.set_cons_zero, List.set_cons_succ, i64_w, i32_w]
        rfl
      have y0 : w9.cell? ⟨nb, 0, none⟩ = some (.bool true) := (blk_cell hn6.out 0).trans rfl
      have z0 := blk_frozen hn6.out 0
      have y1 : w9.cell? ⟨nb, 1, none⟩ = some (.slice A5 1 c5) := (blk_cell hn6.out 1).trans rfl
      have z1 := blk_frozen hn6.out 1
      have y2 : w9.cell? ⟨nb, 2, none⟩ = some (.slice none 0 0) := (blk_cell hn6.out 2).trans rfl
      have z2 := blk_frozen hn6.out 2
      have y3 : w9.cell? ⟨nb, 3, none⟩ = some (.slice none 0 0) := (blk_cell hn6.out 3).trans rfl
      have z3 := blk_frozen hn6.out 3
      refine last_ (i := 7) (N := none) #[true, true, true, true, true, true, true, true] rfl rfl (by kernel_rfl) (by decide) (fun K hK => ?_)
      refine skip_ (w1 := ?_) (by rfl) rfl ?_ ?_
      rotate_left
      · go_simp
        with_reducible rfl
      refine hK.out _ _ ?_
      clear hK K
      refine done_ (by kernel_rfl) ?_
      clear hHeld
      clear y0 z0 y1 z1 y2 z2 y3 z3
      have hnA := hid (blk_set hn6.out 2 (.slice A6 1 c6))
      have hrA := hid ((Below.heap_setCell w9 ⟨nb, 2, none⟩ (.slice A6 1 c6) w.heap.size hne0.out).trans hr6.out)
      have hxA := hid ((Below.heap_setCell w9 ⟨nb, 2, none⟩ (.slice A6 1 c6) (w.heap.size + 1) hne1.out).trans hx6.out)
      have hBA := hid (below_set hB6.out hnb.out 2 (.slice A6 1 c6))
      have CA := hid (C_set1 (by intro x b h; cases h) (by intro x a n c h; cases h) C9.out hn6.out 2 (.slice A6 1 c6))
      have DA := hid (C_set1 (by intro x b h; cases h) (by intro x a n c h; cases h) D6.out hn6.out 2 (.slice A6 1 c6))
      have hAt := hid (At.mk_ (x := exN) CA.out lC5.out DA.out lD6.out (Kd.C_nil _ _) (Nat.le_refl 0))
      clear hn6 hr6 hx6 hB6 C9 D6 CA DA
      go_wp2_with fail
      go_roundg 0
      case measure => omega
      case rel => exact ⟨hBA, hrA, .inr ⟨rfl, hxA, A5, A6, c5, c6, hnA, hAt⟩⟩
    · have r0 : wr.cell? ⟨w.heap.size + 1, 0, none⟩ = some (.string ⟨#[]⟩) := (blk_cell hx.out 0).trans rfl
      have r1 : wr.cell? ⟨w.heap.size + 1, 1, none⟩ = some (.bool false) := (blk_cell hx.out 1).trans rfl
      have n0 : wr.cell? ⟨nb, 0, none⟩ = some (.bool true) := (blk_cell hn.out 0).trans rfl
      have n1 : wr.cell? ⟨nb, 1, none⟩ = some (.slice A1 1 c1) := (blk_cell hn.out 1).trans rfl
      have n2 : wr.cell? ⟨nb, 2, none⟩ = some (.slice A2 1 c2) := (blk_cell hn.out 2).trans rfl
      have n3 : wr.cell? ⟨nb, 3, none⟩ = some (.slice none 0 0) := (blk_cell hn.out 3).trans rfl
      have HR := hid (right_ex _ wr hA.out)
      go_upto_region 15 with (first | ((with_reducible refine Calls.mono HR.out ?_); rintro r wz ⟨rfl, hbz⟩; replace hr := hid ((hbz.block _ (blk_lt hr.out)).trans hr.out); replace hn := hid ((hbz.block _ (blk_lt hn.out)).trans hn.out); replace hB := hid (below_then hB.out hB.out.size hbz); replace hA := hid (hA.out.below hbz); clear hbz))
      clear r0 r1 n0 n1 n2 n3
      have n0 : wz.cell? ⟨nb, 0, none⟩ = some (.bool true) := (blk_cell hn.out 0).trans rfl
      have n1 : wz.cell? ⟨nb, 1, none⟩ = some (.slice A1 1 c1) := (blk_cell hn.out 1).trans rfl
      have n2 : wz.cell? ⟨nb, 2, none⟩ = some (.slice A2 1 c2) := (blk_cell hn.out 2).trans rfl
      have n3 : wz.cell? ⟨nb, 3, none⟩ = some (.slice none 0 0) := (blk_cell hn.out 3).trans rfl
      have e0 : wz.cell? ⟨w.heap.size, 0, none⟩ = some (.bool false) := (blk_cell hr.out 0).trans rfl
      have e1 : wz.cell? ⟨w.heap.size, 1, none⟩ = some (.slice none 0 0) := (blk_cell hr.out 1).trans rfl
      have e2 : wz.cell? ⟨w.heap.size, 2, none⟩ = some (.slice none 0 0) := (blk_cell hr.out 2).trans rfl
      have e3 : wz.cell? ⟨w.heap.size, 3, none⟩ = some (.slice none 0 0) := (blk_cell hr.out 3).trans rfl
      have f0 := blk_frozen hr.out 0
      have f1 := blk_frozen hr.out 1
      have f2 := blk_frozen hr.out 2
      have f3 := blk_frozen hr.out 3
      have hZ := hid (set4_at hr.out (.bool true) (.slice A1 1 c1) (.slice A2 1 c2) (.slice none 0 0))
      have hb := hid (set4_below hB.out (Nat.le_refl _) (.bool true) (.slice A1 1 c1) (.slice A2 1 c2) (.slice none 0 0))
      have hA2 := hid (hA.out.set4 hr.out (.bool true) (.slice A1 1 c1) (.slice A2 1 c2) (.slice none 0 0))
      go_wp2_with fail
      refine bodyPost_ret (results_ct rfl _ _ w.heap.size 29 #[.bool true, .slice A1 1 c1, .slice A2 1 c2, .slice none 0 0] (0, 0) _ rfl hZ.out Try.underlying29 rfl (by kernel_rfl)) rfl ?_
      exact ⟨_, rfl, hA2.out, hb.out⟩
structure Boxed (W : World) (g : Nat) (cs : Array Value) (x : Nd) : Prop where
  box : W.heap[g]? = some (.cells cs 29 (0, 0))
  at_ : At W (.agg cs) x
theorem Boxed.below {W W' : World} {g : Nat} {cs : Array Value} {x : Nd} (h : Boxed W g cs x) (hb : Below W.heap.size W W') : Boxed W' g cs x :=
  ⟨(hb.block _ (blk_lt h.box)).trans h.box, h.at_.below hb⟩
theorem Boxed.lt {W : World} {g : Nat} {cs : Array Value} {x : Nd} (h : Boxed W g cs x) : g < W.heap.size := blk_lt h.box
theorem Boxed.new {W : World} {cs : Array Value} {x : Nd} (h : At W (.agg cs) x) : Boxed (W.alloc (.cells cs 29)) W.heap.size cs x :=
  ⟨Array.getElem?_push_size, h.below (below_alloc (Below.refl _ _) _)⟩
set_option maxHeartbeats 1000000 in
set_option maxRecDepth 100000 in
theorem examples_walk (w : World) : Calls Try.prog 10 #[] w fun e w' => e = .returned (.bool true) ∧ Below w.heap.size w w' := by
  have hB0 := hid (below_alloc (below_alloc (Below.refl w.heap.size w) (.cells #[.int .u64 7] 23)) (.cells #[.string ⟨#[97, 98, 99]⟩] 9))
  have hk1 : (((w.alloc (.cells #[.int .u64 7] 23)).alloc (.cells #[.string ⟨#[97, 98, 99]⟩] 9))).heap[w.heap.size]? = some (.cells #[.int .u64 7] 23 (0, 0)) := alloc2_fst w _ _
  have hk2 : (((w.alloc (.cells #[.int .u64 7] 23)).alloc (.cells #[.string ⟨#[97, 98, 99]⟩] 9))).heap[w.heap.size + 1]? = some (.cells #[.string ⟨#[97, 98, 99]⟩] 9 (0, 0)) := alloc2_snd w _ _
  have hA0 : At ((w.alloc (.cells #[.int .u64 7] 23)).alloc (.cells #[.string ⟨#[97, 98, 99]⟩] 9)) (.agg #[.bool true, .slice (some ⟨w.heap.size, 0, none⟩) 1 1, .slice (some ⟨w.heap.size + 1, 0, none⟩) 1 1, .slice none 0 0]) exN := At.mk_ (x := exN) (C_row1 (enc := Value.int .u64) hk1) (by decide) (C_row1 (enc := Value.string) hk2) (by decide) (Kd.C_nil _ _) (Nat.le_refl 0)
  have hx := hid (Boxed.new hA0)
  have hB := hid (below_alloc hB0.out (.cells #[.bool true, .slice (some ⟨w.heap.size, 0, none⟩) 1 1, .slice (some ⟨w.heap.size + 1, 0, none⟩) 1 1, .slice none 0 0] 29))
  have hg : Hid (((w.alloc (.cells #[.int .u64 7] 23)).alloc (.cells #[.string ⟨#[97, 98, 99]⟩] 9)).heap.size = w.heap.size + 1 + 1) := hid (by show ((w.heap.push _).push _).size = _; simp only [Array.size_push])
  have HE := hid (fun W (h : At W (.agg #[.bool true, .slice (some ⟨w.heap.size, 0, none⟩) 1 1, .slice (some ⟨w.heap.size + 1, 0, none⟩) 1 1, .slice none 0 0]) exN) => encode_ex _ W h)
  have HD := hid (fun W => decode_ex W)
  clear hk1 hk2 hA0 hB0
  rw [hg.out] at hx
  clear hg
  go_enter Try.func10, Try.ntmps10
  (try dsimp only [List.append])
  go_upto_region 2 with fail
  generalize ((w.alloc (.cells #[.int .u64 7] 23)).alloc (.cells #[.string ⟨#[97, 98, 99]⟩] 9)).alloc (.cells #[.bool true, .slice (some ⟨w.heap.size, 0, none⟩) 1 1, .slice (some ⟨w.heap.size + 1, 0, none⟩) 1 1, .slice none 0 0] 29) = w1 at *
  have d0 : w1.cell? ⟨w.heap.size + 1 + 1, 0, none⟩ = some (.bool true) := (blk_cell hx.out.box 0).trans rfl; have d1 : w1.cell? ⟨w.heap.size + 1 + 1, 1, none⟩ = some (.slice (some ⟨w.heap.size, 0, none⟩) 1 1) := (blk_cell hx.out.box 1).trans rfl; have d2 : w1.cell? ⟨w.heap.size + 1 + 1, 2, none⟩ = some (.slice (some ⟨w.heap.size + 1, 0, none⟩) 1 1) := (blk_cell hx.out.box 2).trans rfl; have d3 : w1.cell? ⟨w.heap.size + 1 + 1, 3, none⟩ = some (.slice none 0 0) := (blk_cell hx.out.box 3).trans rfl
  go_upto_region 3 with (first | ((with_reducible refine Calls.mono (HE.out _ hx.out.at_) ?_); rintro r w2 ⟨rfl, hb⟩; replace hx := hid (hx.out.below hb); replace hB := hid (below_then hB.out hB.out.size hb); clear hb))
  clear d0 d1 d2 d3
  have hb0 := hid (hx.out.lt)
  go_upto_region 4 with (first | ((with_reducible refine Calls.mono (HD.out _) ?_); rintro r w3 ⟨v3, rfl, ⟨A1, c1, A2, c2, A3, c3, rfl, q1, q2, q3⟩, hb⟩; have hy := hid (Boxed.new (show At w3 (.agg #[.bool exN.leaf, .slice A1 exN.keys.length c1, .slice A2 exN.vals.length c2, .slice A3 exN.kids.length c3]) exN from ⟨A1, c1, A2, c2, A3, c3, rfl, q1, q2, q3⟩)); clear q1 q2 q3; replace hx := hid (hx.out.below hb); have HX3 := hid (hx.out.below (below_alloc (Below.refl _ w3) (.cells #[.bool exN.leaf, .slice A1 exN.keys.length c1, .slice A2 exN.vals.length c2, .slice A3 exN.kids.length c3] 29))); replace hB := hid (below_alloc (below_then hB.out hB.out.size hb) (.cells #[.bool exN.leaf, .slice A1 exN.keys.length c1, .slice A2 exN.vals.length c2, .slice A3 exN.kids.length c3] 29)); clear hb))
  change Code.wp _ _ _ _ (w3.alloc (.cells #[.bool exN.leaf, .slice A1 exN.keys.length c1, .slice A2 exN.vals.length c2, .slice A3 exN.kids.length c3] 29))
  generalize w3.alloc (.cells #[.bool exN.leaf, .slice A1 exN.keys.length c1, .slice A2 exN.vals.length c2, .slice A3 exN.kids.length c3] 29) = w4 at *
  replace hx : Hid (Boxed w4 (w.heap.size + 1 + 1) #[.bool true, .slice (some ⟨w.heap.size, 0, none⟩) 1 1, .slice (some ⟨w.heap.size + 1, 0, none⟩) 1 1, .slice none 0 0] exN) := HX3
  have hb4 := hid hy.out.lt
  generalize w3.heap.size = ny at *
  have d0 : w4.cell? ⟨w.heap.size + 1 + 1, 0, none⟩ = some (.bool true) := (blk_cell hx.out.box 0).trans rfl; have d1 : w4.cell? ⟨w.heap.size + 1 + 1, 1, none⟩ = some (.slice (some ⟨w.heap.size, 0, none⟩) 1 1) := (blk_cell hx.out.box 1).trans rfl; have d2 : w4.cell? ⟨w.heap.size + 1 + 1, 2, none⟩ = some (.slice (some ⟨w.heap.size + 1, 0, none⟩) 1 1) := (blk_cell hx.out.box 2).trans rfl; have d3 : w4.cell? ⟨w.heap.size + 1 + 1, 3, none⟩ = some (.slice none 0 0) := (blk_cell hx.out.box 3).trans rfl
  have f0 : w4.cell? ⟨ny, 0, none⟩ = some (.bool exN.leaf) := (blk_cell hy.out.box 0).trans rfl; have f1 : w4.cell? ⟨ny, 1, none⟩ = some (.slice A1 exN.keys.length c1) := (blk_cell hy.out.box 1).trans rfl; have f2 : w4.cell? ⟨ny, 2, none⟩ = some (.slice A2 exN.vals.length c2) := (blk_cell hy.out.box 2).trans rfl; have f3 : w4.cell? ⟨ny, 3, none⟩ = some (.slice A3 exN.kids.length c3) := (blk_cell hy.out.box 3).trans rfl
  have HR := hid (fun v W h => ref_walk exN v W h)
  have HN := hid (fun v u W (h : At W v exN) (h' : At W u exN) => nodes_walk exN exN v u W h h' (by decide) (by decide) (by decide))
  refine start_ (n := 5) (S := fun w' => Below w4.heap.size w4 w') (ds := []) #[false, false, false, false, false] (by kernel_rfl) rfl rfl (below_drew (Below.refl _ _)) (fun hHeld => ?_)
  refine take_ (i := 0) (N := some 22) (v := ?_) (a' := ?_) #[true, false, false, false, false] rfl rfl (by kernel_rfl) (fun _ _ _ h => h) (Or.inl ⟨by rfl, ?_⟩) hHeld ?_ ?_
  rotate_left
  · rintro w' hb'
    have dd0 := pw_cell_below hb' f0
    have dd1 := pw_cell_below hb' f1
    have dd2 := pw_cell_below hb' f2
    have dd3 := pw_cell_below hb' f3
    go_simp
    with_reducible rfl
  rotate_left
  · simp only [Act.put, List.setIfInBounds_toArray, List.set_cons_zero, List.set_cons_succ, i64_w, i32_w]
    rfl
  refine take_ (i := 1) (N := some 23) (v := ?_) (a' := ?_) #[true, true, false, false, false] rfl rfl (by kernel_rfl) (fun _ _ _ h => h) (Or.inl ⟨by rfl, ?_⟩) hHeld ?_ ?_
  rotate_left
  · rintro w' hb'
    have dd0 := pw_cell_below hb' d0
    have dd1 := pw_cell_below hb' d1
    have dd2 := pw_cell_below hb' d2
    have dd3 := pw_cell_below hb' d3
    go_simp
    with_reducible rfl
  rotate_left
  · simp only [Act.put, List.setIfInBounds_toArray, List.set_cons_zero, List.set_cons_succ, i64_w, i32_w]
    rfl
  refine one_ (i := 2) (N := some 24) #[true, true, true, false, false] rfl rfl (by kernel_rfl) (by decide) (fun K hK => ?_)
  refine goes_ Try.func16 (by kernel_rfl) rfl #[.agg #[.bool true, .slice (some ⟨w.heap.size, 0, none⟩) 1 1, .slice (some ⟨w.heap.size + 1, 0, none⟩) 1 1, .slice none 0 0]] (by rfl) rfl rfl (by (try simp only [List.map_toArray, List.map_cons, List.map_nil]); first | done | rfl) ?_
  refine (HR.out _ _ (hx.out.below (below_drew (Below.refl _ _))).at_).mono ?_
  rintro r w5 ⟨v5, rfl, q1, q2⟩
  replace q1 := hid q1
  have s2 := below_then (below_drew (Below.refl _ _)) (Nat.le_refl _) q2
  clear q2
  refine ⟨_, rfl, ?_⟩
  refine hK.out _ _ s2 (fun hHeld => ?_)
  clear hK K
  refine norm_ (a' := ?_) ?_ ?_
  rotate_left
  · show Act.put _ (some 24) _ = _
    simp only [Act.put, List.setIfInBounds_toArray, List.set_cons_zero, List.set_cons_succ, i64_w, i32_w]
    rfl
  refine one_ (i := 3) (N := some 25) #[true, true, true, true, false] rfl rfl (by kernel_rfl) (by decide) (fun K hK => ?_)
  refine goes_ Try.func14 (by kernel_rfl) rfl #[.agg #[.bool exN.leaf, .slice A1 exN.keys.length c1, .slice A2 exN.vals.length c2, .slice A3 exN.kids.length c3], v5] (by rfl) rfl rfl (by (try simp only [List.map_toArray, List.map_cons, List.map_nil]); first | done | rfl) ?_
  refine (HN.out _ _ _ (hy.out.below s2).at_ q1.out).mono ?_
  rintro r w6 ⟨rfl, q3⟩
  have s3 := below_then s2 s2.size q3
  clear q3
  refine ⟨_, rfl, ?_⟩
  refine hK.out _ _ s3 (fun hHeld => ?_)
  clear hK K
  refine norm_ (a' := ?_) ?_ ?_
  rotate_left
  · show Act.put _ (some 25) _ = _
    simp only [Act.put, List.setIfInBounds_toArray, List.set_cons_zero, List.set_cons_succ, i64_w, i32_w]
    rfl
  refine pure_ (i := 4) (N := some 6) (v := ?_) (a' := ?_) #[true, true, true, true, true] rfl rfl (by kernel_rfl) (fun _ _ _ h => h) (Or.inl ⟨by rfl, ?_⟩) ?_ ?_
  rotate_left
  · intro w'
    go_simp
    with_reducible rfl
  rotate_left
  · simp only [Act.put, List.setIfInBounds_toArray, List.set_cons_zero, List.set_cons_succ, i64_w, i32_w]
    rfl
  refine done_ (by kernel_rfl) ?_

  clear d0 d1 d2 d3 f0 f1 f2 f3 hHeld
  replace hx := hid (hx.out.below s3)
  replace hB := hid (below_then hB.out hB.out.size s3)
  clear s2 s3 q1 hy
  have d0 : w6.cell? ⟨w.heap.size + 1 + 1, 0, none⟩ = some (.bool true) := (blk_cell hx.out.box 0).trans rfl; have d1 : w6.cell? ⟨w.heap.size + 1 + 1, 1, none⟩ = some (.slice (some ⟨w.heap.size, 0, none⟩) 1 1) := (blk_cell hx.out.box 1).trans rfl; have d2 : w6.cell? ⟨w.heap.size + 1 + 1, 2, none⟩ = some (.slice (some ⟨w.heap.size + 1, 0, none⟩) 1 1) := (blk_cell hx.out.box 2).trans rfl; have d3 : w6.cell? ⟨w.heap.size + 1 + 1, 3, none⟩ = some (.slice none 0 0) := (blk_cell hx.out.box 3).trans rfl
  have HF := hid (fun W (h : At W (.agg #[.bool true, .slice (some ⟨w.heap.size, 0, none⟩) 1 1, .slice (some ⟨w.heap.size + 1, 0, none⟩) 1 1, .slice none 0 0]) exN) => find_walk exN _ 7 W h (by decide))
  have HS := hid (fun W (h : At W (.agg #[.bool true, .slice (some ⟨w.heap.size, 0, none⟩) 1 1, .slice (some ⟨w.heap.size + 1, 0, none⟩) 1 1, .slice none 0 0]) exN) => size_walk exN _ W h (by decide) (by decide) (by decide) (by decide))
  rw [show findF exN 7 = (0, true) by decide] at HF
  rw [show sizeF exN = 13 by decide] at HS
  go_upto_region 6 with (first | ((with_reducible refine Calls.mono (HF.out _ hx.out.at_) ?_); rintro r w7 ⟨rfl, hb⟩; replace hx := hid (hx.out.below hb); replace hB := hid (below_then hB.out hB.out.size hb); clear hb))
  clear d0 d1 d2 d3
  have d0 : w7.cell? ⟨w.heap.size + 1 + 1, 0, none⟩ = some (.bool true) := (blk_cell hx.out.box 0).trans rfl; have d1 : w7.cell? ⟨w.heap.size + 1 + 1, 1, none⟩ = some (.slice (some ⟨w.heap.size, 0, none⟩) 1 1) := (blk_cell hx.out.box 1).trans rfl; have d2 : w7.cell? ⟨w.heap.size + 1 + 1, 2, none⟩ = some (.slice (some ⟨w.heap.size + 1, 0, none⟩) 1 1) := (blk_cell hx.out.box 2).trans rfl; have d3 : w7.cell? ⟨w.heap.size + 1 + 1, 3, none⟩ = some (.slice none 0 0) := (blk_cell hx.out.box 3).trans rfl
  go_wp2_with (first | ((with_reducible refine Calls.mono (HS.out _ hx.out.at_) ?_); rintro r w8 ⟨rfl, hb⟩; replace hB := hid (below_then hB.out hB.out.size hb); clear hb))
  go_ret
  exact ⟨rfl, hB.out⟩
end Go.Proofs.Ytnghbfegijnolaa.A
