/-
  The document's disk: the walk of its Crash.
-/
import Derived.Test.YtnffhdlkkfphbaaR4
namespace Go.Proofs.Ytnffhdlkkfphbaa.D
set_option linter.unusedVariables false
set_option linter.unusedSimpArgs false
open Go.RowKit Go.Proofs.YtnffhdlkkfphbaaW.PrintWords Go.Proofs.YtnffhdlkkfphbaaW.PrintLast Go.Proofs.YtnffhdlkkfphbaaW.PrintMore
open Go.Lib (hid)
/-- A crash, each loose sector by its own old text. -/
def rcrash (L : List (Int × ByteArray)) (ks : List Int) (now : List ByteArray) : Nat → List ByteArray
  | 0 => now
  | i + 1 => if lets ks i then (rcrash L ks now i).set (L.getD i (0, ⟨#[]⟩)).1.toNat (L.getD i (0, ⟨#[]⟩)).2 else rcrash L ks now i
theorem rcrash_len (L : List (Int × ByteArray)) (ks : List Int) (now : List ByteArray) : ∀ n, (rcrash L ks now n).length = now.length
  | 0 => rfl
  | n + 1 => by
    unfold rcrash
    split
    · rw [List.length_set]; exact rcrash_len L ks now n
    · exact rcrash_len L ks now n
/-- Where no sector is loose twice, both crashes are one. -/
theorem rcrash_eq (L : List (Int × ByteArray)) (ks : List Int) (now : List ByteArray) (hL : (L.map (·.1)).Nodup) : ∀ n, n ≤ L.length → rcrash L ks now n = crashN L ks now n
  | 0, _ => rfl
  | n + 1, h => by
    have ih := rcrash_eq L ks now hL n (by omega)
    unfold rcrash crashN
    rw [ih]
    have hn : n < L.length := by omega
    have e1 : L.getD n (0, ⟨#[]⟩) = L[n] := by rw [List.getD_eq_getElem?_getD, List.getElem?_eq_getElem hn]; rfl
    have e2 : (L.map Prod.fst).getD n 0 = (L[n]).1 := by rw [List.getD_eq_getElem?_getD, List.getElem?_map, List.getElem?_eq_getElem hn]; rfl
    have e3 : getS L (L[n]).1 = (L[n]).2 := by
      unfold getS
      have : L.find? (fun p => p.1 == (L[n]).1) = some L[n] := by
        rw [List.find?_eq_some_iff_getElem]
        refine ⟨by simp, n, hn, rfl, fun j hj => ?_⟩
        have hne : (L.map (·.1))[j]'(by rw [List.length_map]; omega) ≠ (L.map (·.1))[n]'(by rw [List.length_map]; omega) := (List.pairwise_iff_getElem.1 hL) j n _ _ hj
        simp only [List.getElem_map] at hne
        simpa using hne
      rw [this]
      rfl
    rw [e1, e2, e3]
/-- What the loop keeps. -/
structure RC (F : Nat → Prop) (w W : World) (x : Nat) (sv lv : Value) (st : St) (now : List ByteArray) : Prop where
  hx : W.heap[x]? = some (.cells #[sv, lv, .int .i64 st.fuse, .bool st.gone] 86 (0, 0))
  hs : Kd.R Kd.string 9 W 0 F sv now
  hl : Kd.R H.k90 90 W 0 F lv (wass st.loose)
  hn : now.length = st.now.length
  hf : Fr F w W
theorem RC.drew {F : Nat → Prop} {w W : World} {x : Nat} {sv lv : Value} {st : St} {now : List ByteArray} (h : RC F w W x sv lv st now) : RC F w W.drew x sv lv st now :=
  ⟨h.hx, Kd.R_move h.hs (fun _ _ => rfl), Kd.R_move h.hl (fun _ _ => rfl), h.hn, h.hf.drewN 1⟩
theorem RC.sector {F : Nat → Prop} {w W : World} {x : Nat} {sv lv : Value} {st : St} {now : List ByteArray} (h : RC F w W x sv lv st now) (n : Nat) (hn : n < now.length) :
    ∃ gs sc, sv = .slice (some ⟨gs, 0, none⟩) now.length sc ∧ W.cell? ⟨gs, n, none⟩ = some (.string (now.getD n ⟨#[]⟩)) ∧ W.frozen? ⟨gs, n, none⟩ = false ∧ ∀ s, RC F w (W.setCell ⟨gs, n, none⟩ (.string s)) x sv lv st (now.set n s) := by
  obtain ⟨hx, hs, hl, hnn, hf⟩ := h
  obtain ⟨gs, sc, rfl, _, hlt, cells, hc⟩ := Kd.R_form hs (by omega)
  obtain ⟨q1, q2⟩ := Kd.R_celln ByteArray.empty hs (n : Int) (by omega) (by omega)
  rw [Int.toNat_natCast] at q1 q2
  have hne : x ≠ gs := by
    rintro rfl
    rw [hx] at hc
    injection hc with hc
    injection hc with _ hc
    exact absurd hc (by decide)
  refine ⟨gs, sc, rfl, q1.trans (by rfl), q2, fun s => ?_⟩
  have hp := Kd.R_putn hs (n : Int) s
  rw [Int.toNat_natCast] at hp
  exact ⟨blk_far hx (p := ⟨gs, n, none⟩) hne _, hp, Kd.R_set hl hc (by decide) n _, by rw [List.length_set]; exact hnn, hf.set (p := ⟨gs, n, none⟩) (hs.1 gs rfl) _⟩
theorem RC.fin {F : Nat → Prop} {w W : World} {x : Nat} {sv lv : Value} {st : St} {now : List ByteArray} (h : RC F w W x sv lv st now) (f1 : F x) (hlen : 0 < st.now.length ∧ st.now.length ≤ 1000) :
    RefAt F (((W.setCell ⟨x, 1, none⟩ (.slice none 0 0)).setCell ⟨x, 2, none⟩ (.int .i64 (-1))).setCell ⟨x, 3, none⟩ (.bool false)) x { now := now, loose := [], fuse := -1, gone := false } ∧
    Fr F w (((W.setCell ⟨x, 1, none⟩ (.slice none 0 0)).setCell ⟨x, 2, none⟩ (.int .i64 (-1))).setCell ⟨x, 3, none⟩ (.bool false)) := by
  have a1 := blk_set h.hx 1 (.slice none 0 0)
  have a2 := blk_set a1 2 (.int .i64 (-1))
  have a3 := blk_set a2 3 (.bool false)
  exact ⟨⟨sv, .slice none 0 0, a3, Kd.R_set (Kd.R_set (Kd.R_set h.hs h.hx (by decide) 1 _) a1 (by decide) 2 _) a2 (by decide) 3 _, Kd.R_nil _ _ _ _ _, f1, by show 0 < now.length ∧ now.length ≤ 1000; rw [h.hn]; exact hlen, ⟨(by decide : (-9223372036854775808 : Int) ≤ -1), (by decide : (-1 : Int) ≤ 9223372036854775807)⟩, fun p hp => absurd hp List.not_mem_nil⟩,
    ((h.hf.set (p := ⟨x, 1, none⟩) f1 _).set (p := ⟨x, 2, none⟩) f1 _).set (p := ⟨x, 3, none⟩) f1 _⟩
set_option maxHeartbeats 1000000 in
set_option maxRecDepth 100000 in
theorem RCrash.calls (F : Nat → Prop) (x : Nat) (st : St) (Ak : Option Addr) (ck : Nat) (ks : List Int) (w : World) (h : RefAt F w x st) (hk : RowA w F Ak ks) (hll : st.loose.length ≤ 10000) :
    Calls Try.prog 46 #[.pointer (some ⟨x, 0, none⟩), .slice Ak ks.length ck] w fun e w' => e = .returned (.tuple #[]) ∧ RefAt F w' x { now := rcrash st.loose ks st.now st.loose.length, loose := [], fuse := -1, gone := false } ∧ Fr F w w' := by
  obtain ⟨sv, lv, hx, hs, hl, f1, hlen, hfb, hrng⟩ := h
  have hC0 : Hid (RC F w w x sv lv st (rcrash st.loose ks st.now 0)) := hid ⟨hx, hs, hl, rfl, Fr.refl F w⟩
  obtain ⟨sA, sc0, rfl⟩ := Kd.R_slice hs
  obtain ⟨lA, lc, rfl⟩ := Kd.R_slice hl
  have hwl : (wass st.loose).length = st.loose.length := by unfold wass; rw [List.length_map]
  rw [hwl] at hC0
  have hwa := hid (fun i (h : i < st.loose.length) => was_at st.loose i h)
  replace hk := hid hk
  replace hrng := hid hrng
  replace hlen := hid hlen
  replace f1 := hid f1
  replace hwl := hid hwl
  have hlb : st.loose.length ≤ 10000 := hll
  clear hx hs hl hfb hll
  obtain ⟨L, hLe⟩ : ∃ L, L = st.loose.length := ⟨_, rfl⟩
  rw [← hLe] at hlb hC0 ⊢
  replace hLe := hid hLe
  go_enter Try.func46, Try.ntmps46
  go_wp2_with fail
  go_loopg [4] L (fun g v4 wr => ∃ (i : Nat), v4 = .int .i64 (i : Int) ∧ i + g = L ∧ Hid (RC F w wr x (.slice sA st.now.length sc0) (.slice lA L lc) st (rcrash st.loose ks st.now i)))
  case atStart => exact ⟨0, by first | rfl | simp, by omega, hC0⟩
  case round =>
    clear hC0
    obtain ⟨i, rfl, hi, hC⟩ := hrel
    have c1 : wr.cell? ⟨x, 1, none⟩ = some (.slice lA L lc) := (blk_cell hC.out.hx 1).trans rfl
    cases gk with
    | zero =>
      obtain rfl : i = L := by omega
      have hZ := hid (hC.out.fin f1.out hlen.out)
      have c2 : wr.cell? ⟨x, 2, none⟩ = some (.int .i64 st.fuse) := (blk_cell hC.out.hx 2).trans rfl
      have c3 : wr.cell? ⟨x, 3, none⟩ = some (.bool st.gone) := (blk_cell hC.out.hx 3).trans rfl
      have q1 := blk_frozen hC.out.hx 1
      have q2 := blk_frozen hC.out.hx 2
      have q3 := blk_frozen hC.out.hx 3
      clear hC
      go_wp2_with fail
      go_end0
      exact ⟨rfl, hZ.out.1, hZ.out.2⟩
    | succ g =>
      have hil : i < st.loose.length := by have := hLe.out; omega
      have hlt : (i : Int) < (L : Int) := by omega
      have hCc : Kd.C H.k90 wr lA L (wass st.loose) := by
        obtain ⟨e, _, hCc⟩ := Kd.R_reads' hC.out.hl
        rw [← e] at hCc
        exact hCc
      obtain ⟨ad, ea, k0, k1⟩ := H.at_T90 hCc (i : Int) (by omega) hlt
      rw [hwa.out i hil, Int.toNat_natCast] at k0 k1
      dsimp only at k0 k1
      have hmem : st.loose.getD i (0, ⟨#[]⟩) ∈ st.loose := by rw [List.getD_eq_getElem?_getD, List.getElem?_eq_getElem hil]; exact List.getElem_mem _
      obtain ⟨r0, r1⟩ := hrng.out _ hmem
      obtain ⟨key, hkey⟩ : ∃ key : Nat, (st.loose.getD i (0, ⟨#[]⟩)).1 = (key : Int) := ⟨_, (Int.toNat_of_nonneg r0).symm⟩
      obtain ⟨txt, htxt⟩ : ∃ txt, (st.loose.getD i (0, ⟨#[]⟩)).2 = txt := ⟨_, rfl⟩
      rw [hkey] at k0 r1
      rw [htxt] at k1
      have hnx : Hid (rcrash st.loose ks st.now (i + 1) = if lets ks i then (rcrash st.loose ks st.now i).set key txt else rcrash st.loose ks st.now i) := hid (by rw [rcrash, hkey, htxt, Int.toNat_natCast])
      obtain ⟨now, hnow⟩ : ∃ now, rcrash st.loose ks st.now i = now := ⟨_, rfl⟩
      rw [hnow] at hC hnx
      have hkl : key < now.length := by rw [hC.out.hn]; omega
      obtain ⟨gs, sc, hsv, s1, s2, hset⟩ := hC.out.drew.sector key hkl
      have hnn : now.length = st.now.length := hC.out.hn
      have s0 : wr.cell? ⟨x, 0, none⟩ = some (.slice (some ⟨gs, 0, none⟩) now.length sc) := by
        have e : wr.cell? ⟨x, 0, none⟩ = some (.slice sA st.now.length sc0) := (blk_cell hC.out.hx 0).trans rfl
        rw [e, hsv]
      have q5 : (key : Int) < (now.length : Int) := by omega
      replace hset := hid hset
      have hfr := hid hC.out.hf
      generalize now.getD key ⟨#[]⟩ = old at s1
      clear hCc hwa hmem r0 r1 hkey htxt hnow hkl hnn hsv
      subst ea
      by_cases hki : ks.length ≤ i
      · have h1 : (ks.length : Int) ≤ (i : Int) := by omega
        rw [show lets ks i = true by unfold lets; rw [decide_eq_true hki, Bool.true_or], if_pos rfl] at hnx
        go_upto_region 4 with fail
        refine start_ (n := 22) (S := fun w' => w'.cell? ⟨x, 0, none⟩ = some (.slice (some ⟨gs, 0, none⟩) now.length sc) ∧ w'.cell? ⟨x, 1, none⟩ = some (.slice (some ad) L lc) ∧ w'.cell? (ad.add (i * 2)) = some (.int .i64 (key : Int)) ∧ w'.cell? ⟨(ad.add (i * 2)).block, (ad.add (i * 2)).off + 1, none⟩ = some (.string txt) ) (ds := [21]) #[false, false, false, false, false, false, false, false, false, false, false, false, false, false, false, false, false, false, false, false, false, false] (by kernel_rfl) rfl rfl ⟨s0, c1, k0, k1⟩ (fun hHeld => ?_)
        refine pure_ (i := 0) (N := some 26) (v := ?_) (a' := ?_) #[true, false, false, false, false, false, false, false, false, false, false, false, false, false, false, false, false, false, false, false, false, false] rfl rfl (by kernel_rfl) (fun _ _ _ h => h) (Or.inl ⟨by rfl, ?_⟩) ?_ ?_
        rotate_left
        · intro w'
          go_simp
          with_reducible rfl
        rotate_left
        · simp only [Act.put, List.setIfInBounds_toArray, List.set_cons_zero, List.set_cons_succ, i64_w, i32_w]
          rfl
        refine pure_ (i := 1) (N := some 27) (v := ?_) (a' := ?_) #[true, true, false, false, false, false, false, false, false, false, false, false, false, false, false, false, false, false, false, false, false, false] rfl rfl (by kernel_rfl) (fun _ _ _ h => h) (Or.inl ⟨by rfl, ?_⟩) ?_ ?_
        rotate_left
        · intro w'
          go_simp
          with_reducible rfl
        rotate_left
        · simp only [Act.put, List.setIfInBounds_toArray, List.set_cons_zero, List.set_cons_succ, i64_w, i32_w]
          rfl
        refine pure_ (i := 2) (N := some 28) (v := ?_) (a' := ?_) #[true, true, true, false, false, false, false, false, false, false, false, false, false, false, false, false, false, false, false, false, false, false] rfl rfl (by kernel_rfl) (fun _ _ _ h => h) (Or.inl ⟨by rfl, ?_⟩) ?_ ?_
        rotate_left
        · intro w'
          go_simp
          with_reducible rfl
        rotate_left
        · simp only [Act.put, List.setIfInBounds_toArray, List.set_cons_zero, List.set_cons_succ, i64_w, i32_w]
          rfl
        refine take_ (i := 3) (N := some 29) (v := ?_) (a' := ?_) #[true, true, true, true, false, false, false, false, false, false, false, false, false, false, false, false, false, false, false, false, false, false] rfl rfl (by kernel_rfl) (fun _ _ _ h => h) (Or.inl ⟨by rfl, ?_⟩) hHeld ?_ ?_
        rotate_left
        · rintro w' ⟨h1, h2, h3, h4⟩
          go_simp
          with_reducible rfl
        rotate_left
        · simp only [Act.put, List.setIfInBounds_toArray, List.set_cons_zero, List.set_cons_succ, i64_w, i32_w]
          rfl
        refine pure_ (i := 4) (N := some 30) (v := ?_) (a' := ?_) #[true, true, true, true, true, false, false, false, false, false, false, false, false, false, false, false, false, false, false, false, false, false] rfl rfl (by kernel_rfl) (fun _ _ _ h => h) (Or.inl ⟨by rfl, ?_⟩) ?_ ?_
        rotate_left
        · intro w'
          go_simp
          with_reducible rfl
        rotate_left
        · simp only [Act.put, List.setIfInBounds_toArray, List.set_cons_zero, List.set_cons_succ, i64_w, i32_w]
          rfl
        refine pure_ (i := 5) (N := some 31) (v := ?_) (a' := ?_) #[true, true, true, true, true, true, false, false, false, false, false, false, false, false, false, false, false, false, false, false, false, false] rfl rfl (by kernel_rfl) (fun _ _ _ h => h) (Or.inl ⟨by rfl, ?_⟩) ?_ ?_
        rotate_left
        · intro w'
          go_simp
          with_reducible rfl
        rotate_left
        · simp only [Act.put, List.setIfInBounds_toArray, List.set_cons_zero, List.set_cons_succ, i64_w, i32_w]
          rfl
        refine pure_ (i := 6) (N := some 32) (v := ?_) (a' := ?_) #[true, true, true, true, true, true, true, false, false, false, false, false, false, false, false, false, false, false, false, false, false, false] rfl rfl (by kernel_rfl) (fun _ _ _ h => h) (Or.inl ⟨by rfl, ?_⟩) ?_ ?_
        rotate_left
        · intro w'
          go_simp
          with_reducible rfl
        rotate_left
        · simp only [Act.put, List.setIfInBounds_toArray, List.set_cons_zero, List.set_cons_succ, i64_w, i32_w]
          rfl
        refine take_ (i := 7) (N := some 33) (v := ?_) (a' := ?_) #[true, true, true, true, true, true, true, true, false, false, false, false, false, false, false, false, false, false, false, false, false, false] rfl rfl (by kernel_rfl) (fun _ _ _ h => h) (Or.inl ⟨by rfl, ?_⟩) hHeld ?_ ?_
        rotate_left
        · rintro w' ⟨h1, h2, h3, h4⟩
          go_simp
          with_reducible rfl
        rotate_left
        · simp only [Act.put, List.setIfInBounds_toArray, List.set_cons_zero, List.set_cons_succ, i64_w, i32_w]
          rfl
        refine pure_ (i := 8) (N := some 34) (v := ?_) (a' := ?_) #[true, true, true, true, true, true, true, true, true, false, false, false, false, false, false, false, false, false, false, false, false, false] rfl rfl (by kernel_rfl) (fun _ _ _ h => h) (Or.inl ⟨by rfl, ?_⟩) ?_ ?_
        rotate_left
        · intro w'
          go_simp
          with_reducible rfl
        rotate_left
        · simp only [Act.put, List.setIfInBounds_toArray, List.set_cons_zero, List.set_cons_succ, i64_w, i32_w]
          rfl
        refine pure_ (i := 9) (N := some 35) (v := ?_) (a' := ?_) #[true, true, true, true, true, true, true, true, true, true, false, false, false, false, false, false, false, false, false, false, false, false] rfl rfl (by kernel_rfl) (fun _ _ _ h => h) (Or.inl ⟨by rfl, ?_⟩) ?_ ?_
        rotate_left
        · intro w'
          go_simp
          with_reducible rfl
        rotate_left
        · simp only [Act.put, List.setIfInBounds_toArray, List.set_cons_zero, List.set_cons_succ, i64_w, i32_w]
          rfl
        refine pure_ (i := 10) (N := some 36) (v := ?_) (a' := ?_) #[true, true, true, true, true, true, true, true, true, true, true, false, false, false, false, false, false, false, false, false, false, false] rfl rfl (by kernel_rfl) (fun _ _ _ h => h) (Or.inl ⟨by rfl, ?_⟩) ?_ ?_
        rotate_left
        · intro w'
          go_simp
          with_reducible rfl
        rotate_left
        · simp only [Act.put, List.setIfInBounds_toArray, List.set_cons_zero, List.set_cons_succ, i64_w, i32_w]
          rfl
        refine take_ (i := 11) (N := some 37) (v := ?_) (a' := ?_) #[true, true, true, true, true, true, true, true, true, true, true, true, false, false, false, false, false, false, false, false, false, false] rfl rfl (by kernel_rfl) (fun _ _ _ h => h) (Or.inl ⟨by rfl, ?_⟩) hHeld ?_ ?_
        rotate_left
        · rintro w' ⟨h1, h2, h3, h4⟩
          go_simp
          with_reducible rfl
        rotate_left
        · simp only [Act.put, List.setIfInBounds_toArray, List.set_cons_zero, List.set_cons_succ, i64_w, i32_w]
          rfl
        refine pure_ (i := 12) (N := some 38) (v := ?_) (a' := ?_) #[true, true, true, true, true, true, true, true, true, true, true, true, true, false, false, false, false, false, false, false, false, false] rfl rfl (by kernel_rfl) (fun _ _ _ h => h) (Or.inl ⟨by rfl, ?_⟩) ?_ ?_
        rotate_left
        · intro w'
          go_simp
          with_reducible rfl
        rotate_left
        · simp only [Act.put, List.setIfInBounds_toArray, List.set_cons_zero, List.set_cons_succ, i64_w, i32_w]
          rfl
        refine pure_ (i := 13) (N := some 39) (v := ?_) (a' := ?_) #[true, true, true, true, true, true, true, true, true, true, true, true, true, true, false, false, false, false, false, false, false, false] rfl rfl (by kernel_rfl) (fun _ _ _ h => h) (Or.inl ⟨by rfl, ?_⟩) ?_ ?_
        rotate_left
        · intro w'
          go_simp
          with_reducible rfl
        rotate_left
        · simp only [Act.put, List.setIfInBounds_toArray, List.set_cons_zero, List.set_cons_succ, i64_w, i32_w]
          rfl
        refine pure_ (i := 14) (N := some 40) (v := ?_) (a' := ?_) #[true, true, true, true, true, true, true, true, true, true, true, true, true, true, true, false, false, false, false, false, false, false] rfl rfl (by kernel_rfl) (fun _ _ _ h => h) (Or.inl ⟨by rfl, ?_⟩) ?_ ?_
        rotate_left
        · intro w'
          go_simp
          with_reducible rfl
        rotate_left
        · simp only [Act.put, List.setIfInBounds_toArray, List.set_cons_zero, List.set_cons_succ, i64_w, i32_w]
          rfl
        refine take_ (i := 15) (N := some 41) (v := ?_) (a' := ?_) #[true, true, true, true, true, true, true, true, true, true, true, true, true, true, true, true, false, false, false, false, false, false] rfl rfl (by kernel_rfl) (fun _ _ _ h => h) (Or.inl ⟨by rfl, ?_⟩) hHeld ?_ ?_
        rotate_left
        · rintro w' ⟨h1, h2, h3, h4⟩
          go_simp
          with_reducible rfl
        rotate_left
        · simp only [Act.put, List.setIfInBounds_toArray, List.set_cons_zero, List.set_cons_succ, i64_w, i32_w]
          rfl
        refine pure_ (i := 16) (N := some 42) (v := ?_) (a' := ?_) #[true, true, true, true, true, true, true, true, true, true, true, true, true, true, true, true, true, false, false, false, false, false] rfl rfl (by kernel_rfl) (fun _ _ _ h => h) (Or.inl ⟨by rfl, ?_⟩) ?_ ?_
        rotate_left
        · intro w'
          go_simp
          with_reducible rfl
        rotate_left
        · simp only [Act.put, List.setIfInBounds_toArray, List.set_cons_zero, List.set_cons_succ, i64_w, i32_w]
          rfl
        refine pure_ (i := 17) (N := some 43) (v := ?_) (a' := ?_) #[true, true, true, true, true, true, true, true, true, true, true, true, true, true, true, true, true, true, false, false, false, false] rfl rfl (by kernel_rfl) (fun _ _ _ h => h) (Or.inl ⟨by rfl, ?_⟩) ?_ ?_
        rotate_left
        · intro w'
          go_simp
          with_reducible rfl
        rotate_left
        · simp only [Act.put, List.setIfInBounds_toArray, List.set_cons_zero, List.set_cons_succ, i64_w, i32_w]
          rfl
        refine pure_ (i := 18) (N := some 44) (v := ?_) (a' := ?_) #[true, true, true, true, true, true, true, true, true, true, true, true, true, true, true, true, true, true, true, false, false, false] rfl rfl (by kernel_rfl) (fun _ _ _ h => h) (Or.inl ⟨by rfl, ?_⟩) ?_ ?_
        rotate_left
        · intro w'
          go_simp
          with_reducible rfl
        rotate_left
        · simp only [Act.put, List.setIfInBounds_toArray, List.set_cons_zero, List.set_cons_succ, i64_w, i32_w]
          rfl
        refine take_ (i := 19) (N := some 45) (v := ?_) (a' := ?_) #[true, true, true, true, true, true, true, true, true, true, true, true, true, true, true, true, true, true, true, true, false, false] rfl rfl (by kernel_rfl) (fun _ _ _ h => h) (Or.inl ⟨by rfl, ?_⟩) hHeld ?_ ?_
        rotate_left
        · rintro w' ⟨h1, h2, h3, h4⟩
          go_simp
          with_reducible rfl
        rotate_left
        · simp only [Act.put, List.setIfInBounds_toArray, List.set_cons_zero, List.set_cons_succ, i64_w, i32_w]
          rfl
        refine pure_ (i := 20) (N := some 46) (v := ?_) (a' := ?_) #[true, true, true, true, true, true, true, true, true, true, true, true, true, true, true, true, true, true, true, true, true, false] rfl rfl (by kernel_rfl) (fun _ _ _ h => h) (Or.inl ⟨by rfl, ?_⟩) ?_ ?_
        rotate_left
        · intro w'
          go_simp
          with_reducible rfl
        rotate_left
        · simp only [Act.put, List.setIfInBounds_toArray, List.set_cons_zero, List.set_cons_succ, i64_w, i32_w]
          rfl
        refine last_ (i := 21) (N := none) #[true, true, true, true, true, true, true, true, true, true, true, true, true, true, true, true, true, true, true, true, true, true] rfl rfl (by kernel_rfl) (by decide) (fun K hK => ?_)
        refine skip_ (w1 := ?_) (by rfl) rfl ?_ ?_
        rotate_left
        · go_simp
          with_reducible rfl
        refine hK.out _ _ ?_
        clear hK K
        refine done_ (by kernel_rfl) ?_
        go_wp2_with fail
        go_roundg g
        case measure => omega
        case rel => exact ⟨i + 1, by first | rfl | simp, by omega, hid (by rw [hnx.out]; exact hset.out txt)⟩
      · have h1 : ¬ ((ks.length : Int) ≤ (i : Int)) := by omega
        obtain ⟨adk, ek, hkF, hck⟩ := hk.out i (by omega)
        subst ek
        have hlk2 : (i : Int) < (ks.length : Int) := by omega
        replace hck : wr.cell? (adk.add i) = some (.int .i64 (ks.getD i 0)) := (cell_same (w := w) (w' := wr) (by
          have hlt := cell_lt hck
          rw [D.add_block] at hlt ⊢
          exact hfr.out.keep _ hlt hkF)).trans hck
        have hle : lets ks i = decide (ks.getD i 0 % 2 = 0) := by
          unfold lets
          rw [decide_eq_false hki, Bool.false_or, D.and_one]
          rfl
        rw [hle] at hnx
        clear hkF hle
        generalize ks.getD i 0 = kv at *
        by_cases hb : kv % 2 = 0
        · rw [decide_eq_true hb, if_pos rfl] at hnx
          have hb2 : kv.tmod 2 = 0 := (tmod_two kv).2 hb
          clear hb
          go_upto_region 4 with fail
          refine start_ (n := 22) (S := fun w' => w'.cell? ⟨x, 0, none⟩ = some (.slice (some ⟨gs, 0, none⟩) now.length sc) ∧ w'.cell? ⟨x, 1, none⟩ = some (.slice (some ad) L lc) ∧ w'.cell? (ad.add (i * 2)) = some (.int .i64 (key : Int)) ∧ w'.cell? ⟨(ad.add (i * 2)).block, (ad.add (i * 2)).off + 1, none⟩ = some (.string txt) ) (ds := [21]) #[false, false, false, false, false, false, false, false, false, false, false, false, false, false, false, false, false, false, false, false, false, false] (by kernel_rfl) rfl rfl ⟨s0, c1, k0, k1⟩ (fun hHeld => ?_)
          refine pure_ (i := 0) (N := some 26) (v := ?_) (a' := ?_) #[true, false, false, false, false, false, false, false, false, false, false, false, false, false, false, false, false, false, false, false, false, false] rfl rfl (by kernel_rfl) (fun _ _ _ h => h) (Or.inl ⟨by rfl, ?_⟩) ?_ ?_
          rotate_left
          · intro w'
            go_simp
            with_reducible rfl
          rotate_left
          · simp only [Act.put, List.setIfInBounds_toArray, List.set_cons_zero, List.set_cons_succ, i64_w, i32_w]
            rfl
          refine pure_ (i := 1) (N := some 27) (v := ?_) (a' := ?_) #[true, true, false, false, false, false, false, false, false, false, false, false, false, false, false, false, false, false, false, false, false, false] rfl rfl (by kernel_rfl) (fun _ _ _ h => h) (Or.inl ⟨by rfl, ?_⟩) ?_ ?_
          rotate_left
          · intro w'
            go_simp
            with_reducible rfl
          rotate_left
          · simp only [Act.put, List.setIfInBounds_toArray, List.set_cons_zero, List.set_cons_succ, i64_w, i32_w]
            rfl
          refine pure_ (i := 2) (N := some 28) (v := ?_) (a' := ?_) #[true, true, true, false, false, false, false, false, false, false, false, false, false, false, false, false, false, false, false, false, false, false] rfl rfl (by kernel_rfl) (fun _ _ _ h => h) (Or.inl ⟨by rfl, ?_⟩) ?_ ?_
          rotate_left
          · intro w'
            go_simp
            with_reducible rfl
          rotate_left
          · simp only [Act.put, List.setIfInBounds_toArray, List.set_cons_zero, List.set_cons_succ, i64_w, i32_w]
            rfl
          refine take_ (i := 3) (N := some 29) (v := ?_) (a' := ?_) #[true, true, true, true, false, false, false, false, false, false, false, false, false, false, false, false, false, false, false, false, false, false] rfl rfl (by kernel_rfl) (fun _ _ _ h => h) (Or.inl ⟨by rfl, ?_⟩) hHeld ?_ ?_
          rotate_left
          · rintro w' ⟨h1, h2, h3, h4⟩
            go_simp
            with_reducible rfl
          rotate_left
          · simp only [Act.put, List.setIfInBounds_toArray, List.set_cons_zero, List.set_cons_succ, i64_w, i32_w]
            rfl
          refine pure_ (i := 4) (N := some 30) (v := ?_) (a' := ?_) #[true, true, true, true, true, false, false, false, false, false, false, false, false, false, false, false, false, false, false, false, false, false] rfl rfl (by kernel_rfl) (fun _ _ _ h => h) (Or.inl ⟨by rfl, ?_⟩) ?_ ?_
          rotate_left
          · intro w'
            go_simp
            with_reducible rfl
          rotate_left
          · simp only [Act.put, List.setIfInBounds_toArray, List.set_cons_zero, List.set_cons_succ, i64_w, i32_w]
            rfl
          refine pure_ (i := 5) (N := some 31) (v := ?_) (a' := ?_) #[true, true, true, true, true, true, false, false, false, false, false, false, false, false, false, false, false, false, false, false, false, false] rfl rfl (by kernel_rfl) (fun _ _ _ h => h) (Or.inl ⟨by rfl, ?_⟩) ?_ ?_
          rotate_left
          · intro w'
            go_simp
            with_reducible rfl
          rotate_left
          · simp only [Act.put, List.setIfInBounds_toArray, List.set_cons_zero, List.set_cons_succ, i64_w, i32_w]
            rfl
          refine pure_ (i := 6) (N := some 32) (v := ?_) (a' := ?_) #[true, true, true, true, true, true, true, false, false, false, false, false, false, false, false, false, false, false, false, false, false, false] rfl rfl (by kernel_rfl) (fun _ _ _ h => h) (Or.inl ⟨by rfl, ?_⟩) ?_ ?_
          rotate_left
          · intro w'
            go_simp
            with_reducible rfl
          rotate_left
          · simp only [Act.put, List.setIfInBounds_toArray, List.set_cons_zero, List.set_cons_succ, i64_w, i32_w]
            rfl
          refine take_ (i := 7) (N := some 33) (v := ?_) (a' := ?_) #[true, true, true, true, true, true, true, true, false, false, false, false, false, false, false, false, false, false, false, false, false, false] rfl rfl (by kernel_rfl) (fun _ _ _ h => h) (Or.inl ⟨by rfl, ?_⟩) hHeld ?_ ?_
          rotate_left
          · rintro w' ⟨h1, h2, h3, h4⟩
            go_simp
            with_reducible rfl
          rotate_left
          · simp only [Act.put, List.setIfInBounds_toArray, List.set_cons_zero, List.set_cons_succ, i64_w, i32_w]
            rfl
          refine pure_ (i := 8) (N := some 34) (v := ?_) (a' := ?_) #[true, true, true, true, true, true, true, true, true, false, false, false, false, false, false, false, false, false, false, false, false, false] rfl rfl (by kernel_rfl) (fun _ _ _ h => h) (Or.inl ⟨by rfl, ?_⟩) ?_ ?_
          rotate_left
          · intro w'
            go_simp
            with_reducible rfl
          rotate_left
          · simp only [Act.put, List.setIfInBounds_toArray, List.set_cons_zero, List.set_cons_succ, i64_w, i32_w]
            rfl
          refine pure_ (i := 9) (N := some 35) (v := ?_) (a' := ?_) #[true, true, true, true, true, true, true, true, true, true, false, false, false, false, false, false, false, false, false, false, false, false] rfl rfl (by kernel_rfl) (fun _ _ _ h => h) (Or.inl ⟨by rfl, ?_⟩) ?_ ?_
          rotate_left
          · intro w'
            go_simp
            with_reducible rfl
          rotate_left
          · simp only [Act.put, List.setIfInBounds_toArray, List.set_cons_zero, List.set_cons_succ, i64_w, i32_w]
            rfl
          refine pure_ (i := 10) (N := some 36) (v := ?_) (a' := ?_) #[true, true, true, true, true, true, true, true, true, true, true, false, false, false, false, false, false, false, false, false, false, false] rfl rfl (by kernel_rfl) (fun _ _ _ h => h) (Or.inl ⟨by rfl, ?_⟩) ?_ ?_
          rotate_left
          · intro w'
            go_simp
            with_reducible rfl
          rotate_left
          · simp only [Act.put, List.setIfInBounds_toArray, List.set_cons_zero, List.set_cons_succ, i64_w, i32_w]
            rfl
          refine take_ (i := 11) (N := some 37) (v := ?_) (a' := ?_) #[true, true, true, true, true, true, true, true, true, true, true, true, false, false, false, false, false, false, false, false, false, false] rfl rfl (by kernel_rfl) (fun _ _ _ h => h) (Or.inl ⟨by rfl, ?_⟩) hHeld ?_ ?_
          rotate_left
          · rintro w' ⟨h1, h2, h3, h4⟩
            go_simp
            with_reducible rfl
          rotate_left
          · simp only [Act.put, List.setIfInBounds_toArray, List.set_cons_zero, List.set_cons_succ, i64_w, i32_w]
            rfl
          refine pure_ (i := 12) (N := some 38) (v := ?_) (a' := ?_) #[true, true, true, true, true, true, true, true, true, true, true, true, true, false, false, false, false, false, false, false, false, false] rfl rfl (by kernel_rfl) (fun _ _ _ h => h) (Or.inl ⟨by rfl, ?_⟩) ?_ ?_
          rotate_left
          · intro w'
            go_simp
            with_reducible rfl
          rotate_left
          · simp only [Act.put, List.setIfInBounds_toArray, List.set_cons_zero, List.set_cons_succ, i64_w, i32_w]
            rfl
          refine pure_ (i := 13) (N := some 39) (v := ?_) (a' := ?_) #[true, true, true, true, true, true, true, true, true, true, true, true, true, true, false, false, false, false, false, false, false, false] rfl rfl (by kernel_rfl) (fun _ _ _ h => h) (Or.inl ⟨by rfl, ?_⟩) ?_ ?_
          rotate_left
          · intro w'
            go_simp
            with_reducible rfl
          rotate_left
          · simp only [Act.put, List.setIfInBounds_toArray, List.set_cons_zero, List.set_cons_succ, i64_w, i32_w]
            rfl
          refine pure_ (i := 14) (N := some 40) (v := ?_) (a' := ?_) #[true, true, true, true, true, true, true, true, true, true, true, true, true, true, true, false, false, false, false, false, false, false] rfl rfl (by kernel_rfl) (fun _ _ _ h => h) (Or.inl ⟨by rfl, ?_⟩) ?_ ?_
          rotate_left
          · intro w'
            go_simp
            with_reducible rfl
          rotate_left
          · simp only [Act.put, List.setIfInBounds_toArray, List.set_cons_zero, List.set_cons_succ, i64_w, i32_w]
            rfl
          refine take_ (i := 15) (N := some 41) (v := ?_) (a' := ?_) #[true, true, true, true, true, true, true, true, true, true, true, true, true, true, true, true, false, false, false, false, false, false] rfl rfl (by kernel_rfl) (fun _ _ _ h => h) (Or.inl ⟨by rfl, ?_⟩) hHeld ?_ ?_
          rotate_left
          · rintro w' ⟨h1, h2, h3, h4⟩
            go_simp
            with_reducible rfl
          rotate_left
          · simp only [Act.put, List.setIfInBounds_toArray, List.set_cons_zero, List.set_cons_succ, i64_w, i32_w]
            rfl
          refine pure_ (i := 16) (N := some 42) (v := ?_) (a' := ?_) #[true, true, true, true, true, true, true, true, true, true, true, true, true, true, true, true, true, false, false, false, false, false] rfl rfl (by kernel_rfl) (fun _ _ _ h => h) (Or.inl ⟨by rfl, ?_⟩) ?_ ?_
          rotate_left
          · intro w'
            go_simp
            with_reducible rfl
          rotate_left
          · simp only [Act.put, List.setIfInBounds_toArray, List.set_cons_zero, List.set_cons_succ, i64_w, i32_w]
            rfl
          refine pure_ (i := 17) (N := some 43) (v := ?_) (a' := ?_) #[true, true, true, true, true, true, true, true, true, true, true, true, true, true, true, true, true, true, false, false, false, false] rfl rfl (by kernel_rfl) (fun _ _ _ h => h) (Or.inl ⟨by rfl, ?_⟩) ?_ ?_
          rotate_left
          · intro w'
            go_simp
            with_reducible rfl
          rotate_left
          · simp only [Act.put, List.setIfInBounds_toArray, List.set_cons_zero, List.set_cons_succ, i64_w, i32_w]
            rfl
          refine pure_ (i := 18) (N := some 44) (v := ?_) (a' := ?_) #[true, true, true, true, true, true, true, true, true, true, true, true, true, true, true, true, true, true, true, false, false, false] rfl rfl (by kernel_rfl) (fun _ _ _ h => h) (Or.inl ⟨by rfl, ?_⟩) ?_ ?_
          rotate_left
          · intro w'
            go_simp
            with_reducible rfl
          rotate_left
          · simp only [Act.put, List.setIfInBounds_toArray, List.set_cons_zero, List.set_cons_succ, i64_w, i32_w]
            rfl
          refine take_ (i := 19) (N := some 45) (v := ?_) (a' := ?_) #[true, true, true, true, true, true, true, true, true, true, true, true, true, true, true, true, true, true, true, true, false, false] rfl rfl (by kernel_rfl) (fun _ _ _ h => h) (Or.inl ⟨by rfl, ?_⟩) hHeld ?_ ?_
          rotate_left
          · rintro w' ⟨h1, h2, h3, h4⟩
            go_simp
            with_reducible rfl
          rotate_left
          · simp only [Act.put, List.setIfInBounds_toArray, List.set_cons_zero, List.set_cons_succ, i64_w, i32_w]
            rfl
          refine pure_ (i := 20) (N := some 46) (v := ?_) (a' := ?_) #[true, true, true, true, true, true, true, true, true, true, true, true, true, true, true, true, true, true, true, true, true, false] rfl rfl (by kernel_rfl) (fun _ _ _ h => h) (Or.inl ⟨by rfl, ?_⟩) ?_ ?_
          rotate_left
          · intro w'
            go_simp
            with_reducible rfl
          rotate_left
          · simp only [Act.put, List.setIfInBounds_toArray, List.set_cons_zero, List.set_cons_succ, i64_w, i32_w]
            rfl
          refine last_ (i := 21) (N := none) #[true, true, true, true, true, true, true, true, true, true, true, true, true, true, true, true, true, true, true, true, true, true] rfl rfl (by kernel_rfl) (by decide) (fun K hK => ?_)
          refine skip_ (w1 := ?_) (by rfl) rfl ?_ ?_
          rotate_left
          · go_simp
            with_reducible rfl
          refine hK.out _ _ ?_
          clear hK K
          refine done_ (by kernel_rfl) ?_
          go_wp2_with fail
          go_roundg g
          case measure => omega
          case rel => exact ⟨i + 1, by first | rfl | simp, by omega, hid (by rw [hnx.out]; exact hset.out txt)⟩
        · rw [decide_eq_false hb, if_neg (by decide)] at hnx
          have hb2 : ¬ kv.tmod 2 = 0 := fun h => hb ((tmod_two kv).1 h)
          clear hb
          go_wp2_with fail
          go_roundg g
          case measure => omega
          case rel => exact ⟨i + 1, by first | rfl | simp, by omega, hid (by rw [hnx.out]; exact hC.out)⟩
end Go.Proofs.Ytnffhdlkkfphbaa.D

