/-
  The document's disk in memory; the walks of its Read, Sync and Loose.
  The document's disk: the walk of its Loose.
  The document's disk: the walk of its New.
-/
import Derived.Test.YtnffhdlkkfphbaaDi
namespace Go.Proofs.Ytnffhdlkkfphbaa.D
set_option linter.unusedVariables false
set_option linter.unusedSimpArgs false
open Go.RowKit Go.Proofs.YtnffhdlkkfphbaaW.PrintWords Go.Proofs.YtnffhdlkkfphbaaW.PrintLast Go.Proofs.YtnffhdlkkfphbaaW.PrintMore
open Go.Lib (hid)
def wass (L : List (Int × ByteArray)) : List H.S90 := L.map fun p => ⟨p.1, p.2⟩
/-- The document's disk: its block x, a row of sectors, a row of the loose ones: all of them among F. -/
def RefAt (F : Nat → Prop) (w : World) (x : Nat) (st : St) : Prop :=
  ∃ sv lv, w.heap[x]? = some (.cells #[sv, lv, .int .i64 st.fuse, .bool st.gone] 86 (0, 0)) ∧ Kd.R Kd.string 9 w 0 F sv st.now ∧ Kd.R H.k90 90 w 0 F lv (wass st.loose) ∧ F x ∧
    (0 < st.now.length ∧ st.now.length ≤ 1000) ∧ (-9223372036854775808 ≤ st.fuse ∧ st.fuse ≤ 9223372036854775807) ∧ (∀ p ∈ st.loose, 0 ≤ p.1 ∧ p.1 < st.now.length)
theorem RefAt.moved {F : Nat → Prop} {w w' : World} {x : Nat} {st : St} (h : RefAt F w x st) (hb : ∀ i, i < w.heap.size → F i → w'.heap[i]? = w.heap[i]?) : RefAt F w' x st := by
  obtain ⟨sv, lv, hx, hs, hl, f1, r⟩ := h
  exact ⟨sv, lv, (hb x (blk_lt hx) f1).trans hx, Kd.R_step hs (fun k hk hlt => hb k hlt hk), Kd.R_step hl (fun k hk hlt => hb k hlt hk), f1, r⟩
theorem RefAt.more {F F' : Nat → Prop} {w : World} {x : Nat} {st : St} (h : RefAt F w x st) (hF : ∀ i, F i → F' i) : RefAt F' w x st := by
  obtain ⟨sv, lv, hx, hs, hl, f1, r⟩ := h
  exact ⟨sv, lv, hx, Kd.R_mono hs hF, Kd.R_mono hl hF, hF _ f1, r⟩
theorem RefAt.tight {F : Nat → Prop} {w : World} {x : Nat} {st : St} (h : RefAt F w x st) : RefAt (fun i => F i ∧ i < w.heap.size) w x st := by
  obtain ⟨sv, lv, hx, hs, hl, f1, r⟩ := h
  exact ⟨sv, lv, hx, Kd.R_mono (Kd.R_bound hs) (fun k hk => ⟨hk.1, hk.2.2.1⟩), Kd.R_mono (Kd.R_bound hl) (fun k hk => ⟨hk.1, hk.2.2.1⟩), ⟨f1, blk_lt hx⟩, r⟩
set_option maxHeartbeats 1000000 in
set_option maxRecDepth 100000 in
theorem RRead.calls (F : Nat → Prop) (x : Nat) (st : St) (n : Int) (w : World) (h : RefAt F w x st) :
    Calls Try.prog 47 #[.pointer (some ⟨x, 0, none⟩), .int .i64 n] w fun e w' => e = .returned (.tuple #[.string (reads st n).1, .int .i64 (reads st n).2]) ∧ w = w' := by
  obtain ⟨sv, lv, hx, hs, hl, f1, hlen, _⟩ := h
  obtain ⟨A, c, rfl, hc, hC⟩ := Kd.R_reads hs
  have c0 : w.cell? ⟨x, 0, none⟩ = some (.slice A st.now.length c) := (blk_cell hx 0).trans rfl
  have c3 : w.cell? ⟨x, 3, none⟩ = some (.bool st.gone) := (blk_cell hx 3).trans rfl
  have q2 := hlen.2
  clear hx hs hl f1 hlen hc
  cases hg : st.gone with
  | true =>
    rw [hg] at c3
    have e : reads st n = (⟨#[]⟩, 5) := by simp [reads, hg]
    rw [e]
    clear hg e hC
    go_enter Try.func47, Try.ntmps47
    go_wp2_with fail
    go_ret2
    exact ⟨rfl, rfl⟩
  | false =>
    rw [hg] at c3
    by_cases h0 : n < 0
    · have e : reads st n = (⟨#[]⟩, 1) := by simp [reads, hg, h0]
      rw [e]
      clear hg e hC
      go_enter Try.func47, Try.ntmps47
      go_wp2_with fail
      go_ret2
      exact ⟨rfl, rfl⟩
    · by_cases h1 : n < (st.now.length : Int)
      · obtain ⟨ad, rfl, hcell⟩ := Kd.at_string hC n (by omega) h1
        have e : reads st n = (rdOf ByteArray.empty st.now n, 0) := by
          unfold reads
          rw [hg, if_neg (by decide), if_neg (by omega)]
          rfl
        rw [e]
        generalize rdOf ByteArray.empty st.now n = y at *
        have h2 : ¬ ((st.now.length : Int) ≤ n) := by omega
        clear hg e hC
        go_enter Try.func47, Try.ntmps47
        go_wp2_with fail
        go_ret2
        exact ⟨rfl, rfl⟩
      · have e : reads st n = (⟨#[]⟩, 1) := by
          unfold reads
          rw [hg, if_neg (by decide), if_pos (.inr (by omega))]
        rw [e]
        have h2 : (st.now.length : Int) ≤ n := by omega
        clear hg e hC
        go_enter Try.func47, Try.ntmps47
        go_wp2_with fail
        go_ret2
        exact ⟨rfl, rfl⟩
theorem RefAt.drop {F : Nat → Prop} {w : World} {x : Nat} {st : St} (h : RefAt F w x st) : RefAt F (w.setCell ⟨x, 1, none⟩ (.slice none 0 0)) x { st with loose := [] } := by
  obtain ⟨sv, lv, hx, hs, hl, f1, r1, r2, r3⟩ := h
  exact ⟨sv, .slice none 0 0, blk_set hx 1 _, Kd.R_set hs hx (by decide) 1 _, Kd.R_nil _ _ _ _ _, f1, r1, r2, fun p hp => absurd hp List.not_mem_nil⟩
theorem RefAt.fuse {F : Nat → Prop} {w : World} {x : Nat} {st : St} (h : RefAt F w x st) (n : Int) (hn : -9223372036854775808 ≤ n ∧ n ≤ 9223372036854775807) : RefAt F (w.setCell ⟨x, 2, none⟩ (.int .i64 n)) x { st with fuse := n } := by
  obtain ⟨sv, lv, hx, hs, hl, f1, r1, r2, r3⟩ := h
  exact ⟨sv, lv, blk_set hx 2 _, Kd.R_set hs hx (by decide) 2 _, Kd.R_set hl hx (by decide) 2 _, f1, r1, hn, r3⟩
theorem RefAt.gone {F : Nat → Prop} {w : World} {x : Nat} {st : St} (h : RefAt F w x st) (b : Bool) : RefAt F (w.setCell ⟨x, 3, none⟩ (.bool b)) x { st with gone := b } := by
  obtain ⟨sv, lv, hx, hs, hl, f1, r1, r2, r3⟩ := h
  exact ⟨sv, lv, blk_set hx 3 _, Kd.R_set hs hx (by decide) 3 _, Kd.R_set hl hx (by decide) 3 _, f1, r1, r2, r3⟩
theorem RefAt.Fx {F : Nat → Prop} {w : World} {x : Nat} {st : St} (h : RefAt F w x st) : F x := by
  obtain ⟨sv, lv, hx, hs, hl, f1, r⟩ := h
  exact f1
set_option maxHeartbeats 1000000 in
set_option maxRecDepth 100000 in
theorem RSync.calls (F : Nat → Prop) (x : Nat) (st : St) (w : World) (h : RefAt F w x st) :
    Calls Try.prog 45 #[.pointer (some ⟨x, 0, none⟩)] w fun e w' => e = .returned (.int .i64 (if st.gone then 5 else 0)) ∧ RefAt F w' x (if st.gone then st else { st with loose := [] }) ∧ Fr F w w' := by
  have h0 := hid h
  obtain ⟨sv, lv, hx, hs, hl, f1, hlen, _⟩ := h
  have c3 : w.cell? ⟨x, 3, none⟩ = some (.bool st.gone) := (blk_cell hx 3).trans rfl
  have c1 : w.cell? ⟨x, 1, none⟩ = some lv := (blk_cell hx 1).trans rfl
  have k1 := blk_frozen hx 1
  obtain ⟨A, c, rfl⟩ := Kd.R_slice hl
  clear hx hs hl f1 hlen
  cases hg : st.gone with
  | true =>
    rw [hg] at c3
    clear hg
    go_enter Try.func45, Try.ntmps45
    go_wp2_with fail
    go_ret
    exact ⟨rfl, h0.out, Fr.refl _ _⟩
  | false =>
    rw [hg] at c3
    have h1 : Hid (RefAt F (w.setCell ⟨x, 1, none⟩ (.slice none 0 0)) x { now := st.now, loose := [], fuse := st.fuse, gone := false }) := hid (by have h2 := h0.out.drop; rw [hg] at h2; exact h2)
    clear hg
    go_enter Try.func45, Try.ntmps45
    go_wp2_with fail
    go_ret
    exact ⟨rfl, h1.out, (Fr.refl F w).set (p := ⟨x, 1, none⟩) h0.out.Fx _⟩
theorem was_at (L : List (Int × ByteArray)) (i : Nat) (h : i < L.length) : H.rd_T90 (wass L) (i : Int) = ⟨(L.getD i (0, ⟨#[]⟩)).1, (L.getD i (0, ⟨#[]⟩)).2⟩ := by
  unfold H.rd_T90 wass
  rw [Int.toNat_natCast]
  simp [List.getD_eq_getElem?_getD, List.getElem?_map, List.getElem?_eq_getElem h]
theorem keys_take (L : List (Int × ByteArray)) (i : Nat) (h : i < L.length) : (L.map (·.1)).take i ++ [(L.getD i (0, ⟨#[]⟩)).1] = (L.map (·.1)).take (i + 1) := by
  rw [List.take_add_one, List.getElem?_map, List.getElem?_eq_getElem h]
  simp [List.getD_eq_getElem?_getD, List.getElem?_eq_getElem h]
set_option maxHeartbeats 1000000 in
set_option maxRecDepth 100000 in
theorem RLoose.calls (F : Nat → Prop) (x : Nat) (st : St) (w : World) (h : RefAt F w x st) (hl : st.loose.length ≤ 100000) :
    Calls Try.prog 48 #[.pointer (some ⟨x, 0, none⟩)] w fun e w' => ∃ v, e = .returned v ∧ Kd.R (Kd.int .i64) 3 w' w.heap.size (fun _ => True) v (st.loose.map (·.1)) ∧ Below w.heap.size w w' := by
  obtain ⟨sv, lv, hx, hs, hlv, f1, hlen, _⟩ := h
  obtain ⟨A, c, rfl, hc, hC⟩ := Kd.R_reads hlv
  obtain ⟨sA, sc, rfl⟩ := Kd.R_slice hs
  have hwl : (wass st.loose).length = st.loose.length := by unfold wass; rw [List.length_map]
  rw [hwl] at hx hC hc
  replace hx := hid hx
  replace hC := hid hC
  replace hwl := hid hwl
  have hB0 := hid (Below.refl w.heap.size w)
  have hR0 := hid (Kd.R_nil (Kd.int .i64) 3 w w.heap.size (fun _ => True))
  clear hs hlv f1 hlen hc
  go_enter Try.func48, Try.ntmps48
  go_wp2_with fail
  go_loopg [3, 4] st.loose.length (fun g v3 v4 wr => ∃ (i : Nat), v4 = .int .i64 (i : Int) ∧ i + g = st.loose.length ∧ Hid (Kd.R (Kd.int .i64) 3 wr w.heap.size (fun _ => True) v3 ((st.loose.map (·.1)).take i)) ∧ Hid (Below w.heap.size w wr))
  case atStart => exact ⟨0, by first | rfl | simp, by omega, hR0, hB0⟩
  case round =>
    clear hR0 hB0
    obtain ⟨i, rfl, hi, hR, hB⟩ := hrel
    have hx1 := (hB.out.block _ (blk_lt hx.out)).trans hx.out
    have c1 : wr.cell? ⟨x, 1, none⟩ = some (.slice A st.loose.length c) := (blk_cell hx1 1).trans rfl
    clear hx1
    cases gk with
    | zero =>
      obtain rfl : i = st.loose.length := by omega
      go_wp2_with fail
      go_ret
      refine ⟨_, rfl, ?_, hB.out⟩
      have := hR.out
      rwa [List.take_of_length_le (by rw [List.length_map]; exact Nat.le_refl _)] at this
    | succ g =>
      have hlt : (i : Int) < (st.loose.length : Int) := by omega
      obtain ⟨ad, rfl, h0, h1⟩ := H.at_T90 hC.out (i : Int) (by omega) hlt
      rw [was_at st.loose i (by omega), Int.toNat_natCast] at h0
      replace h0 := pw_cell_below hB.out h0
      dsimp only at h0
      have hk := hid (keys_take st.loose i (by omega))
      generalize (st.loose.getD i (0, ⟨#[]⟩)).1 = key at *
      clear h1
      go_wp2_with (first | ((with_reducible refine gate_builtin (b := .append) (xs := #[.tmp 14, .tmp 23]) rfl ?_); at_builtin; refine Kd.R_append (Kd.int .i64) w.heap.size rfl (.tmp 14) (.tmp 23) 51 3 (.int .i64 0) 8 rfl Try.underlying51 info3 rfl (by decide) (by omega) u3 ((st.loose.map (·.1)).take i) key [.int .i64 key] (fun _ => True) (fun _ => False) rfl rfl ?aP (fun _ hk => hk.elim) ?aF ?aO (Below.refl _ wr) ?aS ?aL ?_; (case aP => exact rfl); (case aF => exact (fun _ _ => trivial)); (case aO => exact hR.out); (case aS => exact hB.out.size); (case aL => have : ((st.loose.map (·.1)).take i).length ≤ i := List.length_take_le _ _; omega); intro v1 w3 hR3 hb hg hat; replace hR3 := hid hR3; replace hb := hid (hB.out.trans hb); clear hg hat))
      go_roundg g
      case measure => omega
      case rel => exact ⟨i + 1, by first | rfl | simp, by omega, hid (by rw [← hk.out]; exact hR3.out), hb⟩
set_option maxRecDepth 100000 in
theorem RNew.no (n : Int) (hn : n < 8 ∨ 640 < n) (w : World) :
    Calls Try.prog 34 #[.int .i64 n] w fun e w' => e = .returned (.pointer none) ∧ w = w' := by
  by_cases h : n < 8
  · clear hn
    go_enter Try.func34, Try.ntmps34
    go_wp2_with fail
    go_ret
    exact ⟨rfl, rfl⟩
  · have h2 : 640 < n := by omega
    clear hn
    go_enter Try.func34, Try.ntmps34
    go_wp2_with fail
    go_ret
    exact ⟨rfl, rfl⟩
/-- The disk that New fills. -/
structure RN (B x : Nat) (w : World) (sv : Value) (S : List ByteArray) : Prop where
  hx : w.heap[x]? = some (.cells #[sv, .slice none 0 0, .int .i64 (-1), .bool false] 86 (0, 0))
  hs : Kd.R Kd.string 9 w B (fun _ => True) sv S
theorem rn_grown {w w1 : World} {x : Nat} {cs : Array Value} {B : Nat} {sv : Value} {S : List ByteArray} (hx : w.heap[x]? = some (.cells cs 86 (0, 0))) (hs : Kd.R Kd.string 9 w B (fun _ => True) sv S) (hg : w.grownBy w1 sv.ownBlock) : w1.heap[x]? = some (.cells cs 86 (0, 0)) :=
  blk_grown hx hg (fun e => ((Kd.R_types hs hx (fun q hq => by cases hq with | head => decide | tail _ h => cases h)).1 x e.symm).2 rfl)
set_option maxHeartbeats 1000000 in
set_option maxRecDepth 100000 in
theorem RNew.ok (n : Nat) (hn : 8 ≤ n ∧ n ≤ 640) (w : World) :
    Calls Try.prog 34 #[.int .i64 (n : Int)] w fun e w' => ∃ x, e = .returned (.pointer (some ⟨x, 0, none⟩)) ∧ RefAt (fun i => w.heap.size ≤ i) w' x { now := List.replicate n zeros, loose := [], fuse := -1, gone := false } ∧ Below w.heap.size w w' := by
  have q1 : ¬ ((n : Int) < 8) := by omega
  have q2 : ¬ (640 < (n : Int)) := by omega
  obtain ⟨y2, hy2⟩ : ∃ y : List Int, y = List.replicate 256 0 := ⟨_, rfl⟩
  have hz2 : Hid (strOfNums y2 = zeros) := hid (by rw [hy2, zeros_nums])
  have Ny2 := Aside0.mk hy2
  clear hy2
  go_enter Try.func34, Try.ntmps34
  go_upto_region 4 with fail
  have hx0 : Hid (RN w.heap.size w.heap.size (w.alloc (.cells #[.slice none 0 0, .slice none 0 0, .int .i64 (-1), .bool false] 86)) (.slice none 0 0) (List.replicate 0 zeros)) := hid ⟨Array.getElem?_push_size, Kd.R_nil _ _ _ _ _⟩
  have hB0 := hid ((Below.refl w.heap.size w).alloc (Nat.le_refl _) (.cells #[.slice none 0 0, .slice none 0 0, .int .i64 (-1), .bool false] 86))
  have hBx : Hid (w.heap.size ≤ w.heap.size) := hid (Nat.le_refl _)
  generalize (w.alloc (.cells #[.slice none 0 0, .slice none 0 0, .int .i64 (-1), .bool false] 86)) = w1 at *
  obtain ⟨x, hxe⟩ : ∃ x, x = w.heap.size := ⟨_, rfl⟩
  obtain ⟨B, hBe⟩ : ∃ B, B = w.heap.size := ⟨_, rfl⟩
  replace hx0 : Hid (∃ sv, RN B x w1 sv (List.replicate 0 zeros)) := hid ⟨_, by rw [hxe, hBe]; exact hx0.out⟩
  replace hB0 : Hid (Below B w w1) := hid (by rw [hBe]; exact hB0.out)
  replace hBx : Hid (B ≤ x) := hid (by omega)
  replace hBe := hid hBe
  rw [← hxe]
  clear hxe
  go_wp2_with fail
  go_loopg [4] n (fun g v4 wr => ∃ (i : Nat), v4 = .int .i64 (i : Int) ∧ i + g = n ∧ Hid (∃ sv, RN B x wr sv (List.replicate i zeros)) ∧ Hid (Below B w wr))
  case atStart => exact ⟨0, by first | rfl | simp, by omega, hx0, hB0⟩
  case round =>
    clear hx0 hB0
    obtain ⟨i, rfl, hi, hR, hB⟩ := hrel
    obtain ⟨sv, hr⟩ := hR.out
    replace hr := hid hr
    clear hR
    cases gk with
    | zero =>
      obtain rfl : i = n := by omega
      have hfin : Hid (RefAt (fun k => w.heap.size ≤ k) wr x { now := List.replicate i zeros, loose := [], fuse := -1, gone := false }) := hid ⟨sv, .slice none 0 0, hr.out.hx, Kd.R_lower (Kd.R_mono (Kd.R_bound hr.out.hs) (fun k hk => by rw [← hBe.out]; exact hk.2.1)) (Nat.zero_le _), Kd.R_nil _ _ _ _ _, by rw [← hBe.out]; exact hBx.out, by rw [List.length_replicate]; omega, ⟨(by decide : (-9223372036854775808 : Int) ≤ -1), (by decide : (-1 : Int) ≤ 9223372036854775807)⟩, fun p hp => absurd hp List.not_mem_nil⟩
      go_wp2_with fail
      go_ret
      exact ⟨x, rfl, hfin.out, by rw [← hBe.out]; exact hB.out⟩
    | succ g =>
      have hlt : (i : Int) < (n : Int) := by omega
      have hl : Hid (B ≤ wr.heap.size) := hid (Nat.le_trans (Nat.le_of_eq hBe.out) hB.out.size)
      have c0 : wr.cell? ⟨x, 0, none⟩ = some sv := (blk_cell hr.out.hx 0).trans rfl
      go_upto_region 7 with fail
      refine start_ (n := 12) (S := fun w' => w'.cell? ⟨x, 0, none⟩ = some sv) (ds := [8, 11]) #[false, false, false, false, false, false, false, false, false, false, false, false] (by kernel_rfl) rfl rfl c0 (fun hHeld => ?_)
      refine pure_ (i := 0) (N := some 18) (v := ?_) (a' := ?_) #[true, false, false, false, false, false, false, false, false, false, false, false] rfl rfl (by kernel_rfl) (fun _ _ _ h => h) (Or.inl ⟨by rfl, ?_⟩) ?_ ?_
      rotate_left
      · intro w'
        go_simp
        with_reducible rfl
      rotate_left
      · simp only [Act.put, List.setIfInBounds_toArray, List.set_cons_zero, List.set_cons_succ, i64_w, i32_w]
        rfl
      refine pure_ (i := 1) (N := some 19) (v := ?_) (a' := ?_) #[true, true, false, false, false, false, false, false, false, false, false, false] rfl rfl (by kernel_rfl) (fun _ _ _ h => h) (Or.inl ⟨by rfl, ?_⟩) ?_ ?_
      rotate_left
      · intro w'
        go_simp
        with_reducible rfl
      rotate_left
      · simp only [Act.put, List.setIfInBounds_toArray, List.set_cons_zero, List.set_cons_succ, i64_w, i32_w]
        rfl
      refine pure_ (i := 2) (N := some 20) (v := ?_) (a' := ?_) #[true, true, true, false, false, false, false, false, false, false, false, false] rfl rfl (by kernel_rfl) (fun _ _ _ h => h) (Or.inl ⟨by rfl, ?_⟩) ?_ ?_
      rotate_left
      · intro w'
        go_simp
        with_reducible rfl
      rotate_left
      · simp only [Act.put, List.setIfInBounds_toArray, List.set_cons_zero, List.set_cons_succ, i64_w, i32_w]
        rfl
      refine pure_ (i := 3) (N := some 21) (v := ?_) (a' := ?_) #[true, true, true, true, false, false, false, false, false, false, false, false] rfl rfl (by kernel_rfl) (fun _ _ _ h => h) (Or.inl ⟨by rfl, ?_⟩) ?_ ?_
      rotate_left
      · intro w'
        go_simp
        with_reducible rfl
      rotate_left
      · simp only [Act.put, List.setIfInBounds_toArray, List.set_cons_zero, List.set_cons_succ, i64_w, i32_w]
        rfl
      refine take_ (i := 4) (N := some 22) (v := ?_) (a' := ?_) #[true, true, true, true, true, false, false, false, false, false, false, false] rfl rfl (by kernel_rfl) (fun _ _ _ h => h) (Or.inl ⟨by rfl, ?_⟩) hHeld ?_ ?_
      rotate_left
      · intro w' h0
        go_simp
        with_reducible rfl
      rotate_left
      · simp only [Act.put, List.setIfInBounds_toArray, List.set_cons_zero, List.set_cons_succ, i64_w, i32_w]
        rfl
      refine one_ (i := 5) (N := some 23) #[true, true, true, true, true, true, false, false, false, false, false, false] rfl rfl (by kernel_rfl) (by decide) (fun K hK => ?_)
      refine Kd.R_make_step (Kd.int .u8) _ 5 (by rfl) (N := 23) rfl 35 _ _ rfl 256 rfl rfl Try.underlying35 (.int .u8 0) 1 F.info5 rfl (by decide) (by omega) 0 (ok := fun _ => True) (okp := fun _ => True) rfl (fun _ hk => hk) trivial (by omega) (by omega) (Below.refl _ _) (Nat.le_refl _) ?_
      intro v1 w3 ho hbm hg_ hnew_
      clear hg_ hnew_
      simp only [Int.reduceToNat] at ho
      rw [← Ny2.out] at ho
      have hcv1 := own_string (P := Try.prog) Try.underlying35 Try.underlying5 Try.underlying9 (Kd.own_of_R ho)
      clear ho
      replace hbm : Hid (Below wr.heap.size wr w3) := hid (Below.trans (below_drew (Below.refl wr.heap.size wr)) hbm)
      have hx3 := hid ((hbm.out.block _ (blk_lt hr.out.hx)).trans hr.out.hx)
      have hk3 : Hid (w3.cell? ⟨x, 0, none⟩ = some sv) := hid ((blk_cell hx3.out 0).trans rfl)
      refine hK.out _ _ hk3.out (fun hHeld => ?_)
      clear hK K
      refine norm_ (a' := ?_) ?_ ?_
      rotate_left
      · show Act.put _ (some 23) _ = _
        simp only [Act.put, List.setIfInBounds_toArray, List.set_cons_zero, List.set_cons_succ, i64_w, i32_w]
        rfl
      refine one_ (i := 6) (N := some 24) #[true, true, true, true, true, true, true, false, false, false, false, false] rfl rfl (by kernel_rfl) (by decide) (fun K hK => ?_)
      refine value_ (w1 := ?_) (v := ?_) (by rfl) rfl ?_ ?_
      rotate_left 2
      · go_simp
        constructor
        · rfl
        · rfl
      refine hK.out _ _ hk3.out (fun hHeld => ?_)
      clear hK K
      refine norm_ (a' := ?_) ?_ ?_
      rotate_left
      · show Act.put _ (some 24) _ = _
        simp only [Act.put, List.setIfInBounds_toArray, List.set_cons_zero, List.set_cons_succ, i64_w, i32_w]
        rfl
      clear hcv1
      refine one_ (i := 7) (N := some 25) #[true, true, true, true, true, true, true, true, false, false, false, false] rfl rfl (by kernel_rfl) (by decide) (fun K hK => ?_)
      refine value_ (w1 := ?_) (v := ?_) (by rfl) rfl ?_ ?_
      rotate_left 2
      · go_simp
        constructor
        · rfl
        · rfl
      refine hK.out _ _ ((blk_cell (blk_alloc hx3.out _) 0).trans rfl) (fun hHeld => ?_)
      clear hK K
      refine norm_ (a' := ?_) ?_ ?_
      rotate_left
      · show Act.put _ (some 25) _ = _
        simp only [Act.put, List.setIfInBounds_toArray, List.set_cons_zero, List.set_cons_succ, i64_w, i32_w]
        rfl
      refine last_ (i := 8) (N := some 26) #[true, true, true, true, true, true, true, true, true, false, false, false] rfl rfl (by kernel_rfl) (by decide) (fun K hK => ?_)
      refine Kd.R_append_step Kd.string B (by rfl) (.tmp 22) (.tmp 25) 38 9 (.string ⟨#[]⟩) 16 rfl Try.underlying38 info9 rfl (by decide) (by omega) sv (List.replicate i zeros) (strOfNums y2) [.string (strOfNums y2)] (fun _ => True) (fun _ => False) rfl rfl rfl (fun _ hk => hk.elim) (fun _ _ => trivial) (Kd.R_below hr.out.hs hbm.out) (Below.refl B _) (Nat.le_trans hl.out hbm.out.size) (by rw [List.length_replicate]; omega) ?_
      intro v2 w4 hR4 hb4 hg4 hat4
      have hx4 := hid (rn_grown hx3.out (Kd.R_below hr.out.hs hbm.out) hg4)
      obtain ⟨A2, c2, L2, he2⟩ : ∃ A c L, v2 = .slice A L c := by
        obtain ⟨A, c, he⟩ := Kd.R_slice hR4
        exact ⟨_, _, _, he⟩
      subst he2
      have c4 : w4.cell? ⟨x, 0, none⟩ = some sv := (blk_cell hx4.out 0).trans rfl
      have f4 := blk_frozen hx4.out 0
      refine hK.out _ _ ?_
      clear hK K
      refine norm_ (a' := ?_) ?_ ?_
      rotate_left
      · show Act.put _ (some 26) _ = _
        simp only [Act.put, List.setIfInBounds_toArray, List.set_cons_zero, List.set_cons_succ, i64_w, i32_w]
        rfl
      refine pure_ (i := 9) (N := some 27) (v := ?_) (a' := ?_) #[true, true, true, true, true, true, true, true, true, true, false, false] rfl rfl (by kernel_rfl) (fun _ _ _ h => h) (Or.inl ⟨by rfl, ?_⟩) ?_ ?_
      rotate_left
      · intro w'
        go_simp
        with_reducible rfl
      rotate_left
      · simp only [Act.put, List.setIfInBounds_toArray, List.set_cons_zero, List.set_cons_succ, i64_w, i32_w]
        rfl
      refine pure_ (i := 10) (N := some 28) (v := ?_) (a' := ?_) #[true, true, true, true, true, true, true, true, true, true, true, false] rfl rfl (by kernel_rfl) (fun _ _ _ h => h) (Or.inl ⟨by rfl, ?_⟩) ?_ ?_
      rotate_left
      · intro w'
        go_simp
        with_reducible rfl
      rotate_left
      · simp only [Act.put, List.setIfInBounds_toArray, List.set_cons_zero, List.set_cons_succ, i64_w, i32_w]
        rfl
      refine last_ (i := 11) (N := none) #[true, true, true, true, true, true, true, true, true, true, true, true] rfl rfl (by kernel_rfl) (by decide) (fun K hK => ?_)
      refine skip_ (w1 := ?_) (by rfl) rfl ?_ ?_
      rotate_left
      · go_simp
        with_reducible rfl
      refine hK.out _ _ ?_
      clear hK K
      refine done_ (by kernel_rfl) ?_
      go_wp2_with fail
      go_roundg g
      case measure => omega
      case rel =>
        refine ⟨i + 1, by first | rfl | simp, by omega, hid ⟨_, ⟨blk_set hx4.out 0 _, ?_⟩⟩, hid (((hB.out.trans (hbm.out.mono hl.out)).trans hb4).setCell (p := ⟨x, 0, none⟩) hBx.out _)⟩
        have h := Kd.R_set hR4 hx4.out (by decide) 0 (.slice A2 L2 c2)
        rw [hz2.out] at h
        rw [List.replicate_succ']
        exact h
end Go.Proofs.Ytnffhdlkkfphbaa.D
