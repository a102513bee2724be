/-
  The walk of a disk's Crash.
-/
import Derived.Test.YtnffhdlkkfphbaaD6
import Derived.StillTailTactics
namespace Go.Proofs.Ytnffhdlkkfphbaa.D
set_option linter.unusedVariables false
set_option linter.unusedSimpArgs false
open Go.RowKit Go.Proofs.YtnffhdlkkfphbaaW.PrintWords Go.Proofs.YtnffhdlkkfphbaaW.PrintLast Go.Proofs.YtnffhdlkkfphbaaW.PrintMore
open Go.Lib (hid)
set_option maxRecDepth 100000 in
theorem Crash.calls (F : Nat → Prop) (d : Nat) (st : St) (Ak : Option Addr) (ck : Nat) (ks : List Int) (w : World) (h : DiskAt F w d st) (hk : RowA w F Ak ks) (hll : st.loose.length ≤ 100000) :
    Calls Try.prog 28 #[.pointer (some ⟨d, 0, none⟩), .slice Ak ks.length ck] w fun e w' => e = .returned (.tuple #[]) ∧ DiskAt (fun i => F i ∨ w.heap.size ≤ i) w' d { now := crashN st.loose ks st.now st.loose.length, loose := [], fuse := -1, gone := false } ∧ Fr (fun i => F i ∨ w.heap.size ≤ i) w w' := by
  obtain ⟨gn, gm, ov, hd, hsx, hmp, ho, f1, f2, f3, hlen, hz, hf, hr⟩ := h
  have hC : Hid (Cr F w w d gn gm ov Ak ks st st.now) := hid ⟨hd, hsx, hmp, ho, hk, rfl, hz, Fr.refl F w⟩
  have c2 : w.cell? ⟨d, 2, none⟩ = some ov := (blk_cell hd 2).trans rfl
  have HP := hid (And.intro f1 (And.intro f2 (And.intro f3 (And.intro hlen (And.intro hf hr)))))
  obtain ⟨A, c, he⟩ := Kd.R_slice ho
  clear hd hsx hmp ho f1 f2 f3 hlen hz hf hr hk
  subst he
  have hLL : Hid ((st.loose.map (·.1)).length = st.loose.length) := hid (by rw [List.length_map])
  go_enter Try.func28, Try.ntmps28
  go_wp2_with fail
  go_loopg [11] st.loose.length (fun g v11 wr => ∃ (i : Nat), v11 = .int .i64 (i : Int) ∧ i + g = st.loose.length ∧ Hid (Cr F w wr d gn gm (.slice A (st.loose.map (·.1)).length c) Ak ks st (crashN st.loose ks st.now i)))
  case atStart => exact ⟨0, rfl, by omega, hC⟩
  case round =>
    obtain ⟨i, rfl, hi, hW⟩ := hrel
    cases gk with
    | zero =>
      have hil : i = st.loose.length := by omega
      subst hil
      have HZ := hid (hW.out.fin HP.out.1 HP.out.2.1 HP.out.2.2.2.1)
      have hd := hW.out.hd
      have k1 : wr.cell? ⟨d, 1, none⟩ = some (.map (some gm)) := (blk_cell hd 1).trans rfl
      have k2 : wr.cell? ⟨d, 2, none⟩ = some (.slice A (st.loose.map (·.1)).length c) := (blk_cell hd 2).trans rfl
      have k3 : wr.cell? ⟨d, 3, none⟩ = some (.int .i64 st.fuse) := (blk_cell hd 3).trans rfl
      have k4 : wr.cell? ⟨d, 4, none⟩ = some (.bool st.gone) := (blk_cell hd 4).trans rfl
      have q1 := blk_frozen hd 1
      have q2 := blk_frozen hd 2
      have q3 := blk_frozen hd 3
      have q4 := blk_frozen hd 4
      have hlt := blk_lt hd
      have hne : d ≠ wr.heap.size := by omega
      have hmm := @run_makeMap Try.prog
      have hq : ¬ ((st.loose.length : Int) < ((st.loose.map (·.1)).length : Int)) := by rw [hLL.out]; omega
      clear hd hW
      go_wp2_with fail
      go_end0
      exact ⟨rfl, HZ.out.1, HZ.out.2⟩
    | succ g =>
      obtain ⟨ad, ea, hc⟩ := Kd.at_int (Kd.R_reads' hW.out.ho).2.2 (i : Int) (by omega) (by rw [hLL.out]; omega)
      subst ea
      rw [Int.toNat_natCast] at hc
      have hlt : (i : Int) < ((st.loose.map (·.1)).length : Int) := by rw [hLL.out]; omega
      have hlt' : i < (st.loose.map (·.1)).length := by rw [hLL.out]; omega
      have hrd : rd (st.loose.map (·.1)) (i : Int) = (st.loose.map Prod.fst).getD i 0 := rfl
      have hmem : rd (st.loose.map (·.1)) (i : Int) ∈ st.loose.map (·.1) := by
        rw [hrd]
        simp only [List.getD_eq_getElem?_getD, List.getElem?_eq_getElem hlt', Option.getD_some]
        exact List.getElem_mem hlt'
      obtain ⟨p, hp, hpe⟩ := List.mem_map.1 hmem
      have hrg := HP.out.2.2.2.2.2 p hp
      rw [hpe] at hrg
      obtain ⟨nn, hnn⟩ : ∃ nn : Nat, rd (st.loose.map (·.1)) (i : Int) = (nn : Int) := ⟨_, (Int.toNat_of_nonneg hrg.1).symm⟩
      have hq2 : Hid ((st.loose.map Prod.fst).getD i 0 = (nn : Int)) := hid (hrd.symm.trans hnn)
      rw [hnn] at hc hrg
      have hd := hW.out.hd
      have k0 : wr.cell? ⟨d, 0, none⟩ = some (.slice (some ⟨gn, 0, none⟩) st.now.length st.now.length) := (blk_cell hd 0).trans rfl
      have k1 : wr.cell? ⟨d, 1, none⟩ = some (.map (some gm)) := (blk_cell hd 1).trans rfl
      have hlk := (hW.out.drew.hm).look (k := (nn : Int)) ⟨by omega, by have := HP.out.2.2.2.1.2; omega⟩
      have hnl : nn < (crashN st.loose ks st.now i).length := by rw [hW.out.hl]; omega
      have ks0 : wr.cell? ⟨gn, nn, none⟩ = some (.string ((crashN st.loose ks st.now i).getD nn ⟨#[]⟩)) := (blk_cell hW.out.hs nn).trans (strs_at _ _ hnl)
      have kf := blk_frozen hW.out.hs nn
      have HS := hid (hW.out.drew.set HP.out.2.1 nn (getS st.loose (nn : Int)) (hW.out.hm.size _))
      have hm1 : st.now.length ≤ 1000 := HP.out.2.2.2.1.2
      generalize (crashN st.loose ks st.now i).getD nn ⟨#[]⟩ = x at ks0
      clear hd hmem hpe hp hrd hnn hnl hlt'
      by_cases hki : ks.length ≤ i
      · have h1 : (ks.length : Int) ≤ (i : Int) := by omega
        have hle : Hid (lets ks i = true) := hid (by simp [lets, hki])
        go_upto_region 4 with fail
        refine still_tail 11 (by kernel_rfl) (by kernel_rfl) ?_
        simp only [List.take_succ_cons, List.take_zero, List.drop_succ_cons, List.drop_zero]
        repeat still_step
        refine wpStill_nil ?_
        go_wp2_with fail
        go_roundg g
        case measure => omega
        case rel =>
          refine ⟨i + 1, by first | rfl | simp, by omega, ?_⟩
          have e : crashN st.loose ks st.now (i + 1) = (crashN st.loose ks st.now i).set nn (getS st.loose (nn : Int)) := by
            rw [crashN, if_pos hle.out, hq2.out, Int.toNat_natCast]
          rw [e]
          exact HS
      · have h1 : ¬ ((ks.length : Int) ≤ (i : Int)) := by omega
        obtain ⟨adk, ek, _, hck⟩ := hW.out.hk i (by omega)
        subst ek
        replace hck : wr.cell? (adk.add i) = some (.int .i64 (rd ks (i : Int))) := hck
        have hlk2 : (i : Int) < (ks.length : Int) := by omega
        by_cases hb : Go.bits .and .i64 (rd ks (i : Int)) 1 = 0
        · have hle : Hid (lets ks i = true) := hid (by
            have : Go.bits .and .i64 (ks.getD i 0) 1 = 0 := hb
            simp only [lets, this]; simp)
          go_upto_region 4 with fail
          refine still_tail 11 (by kernel_rfl) (by kernel_rfl) ?_
          simp only [List.take_succ_cons, List.take_zero, List.drop_succ_cons, List.drop_zero]
          repeat still_step
          refine wpStill_nil ?_
          go_wp2_with fail
          go_roundg g
          case measure => omega
          case rel =>
            refine ⟨i + 1, by first | rfl | simp, by omega, ?_⟩
            have e : crashN st.loose ks st.now (i + 1) = (crashN st.loose ks st.now i).set nn (getS st.loose (nn : Int)) := by
              rw [crashN, if_pos hle.out, hq2.out, Int.toNat_natCast]
            rw [e]
            exact HS
        · have hle : Hid (lets ks i = false) := hid (by
            have : ¬ Go.bits .and .i64 (ks.getD i 0) 1 = 0 := hb
            simp only [lets, Bool.or_eq_false_iff]
            exact ⟨decide_eq_false (by omega), by simpa using this⟩)
          go_wp2_with fail
          go_roundg g
          case measure => omega
          case rel =>
            refine ⟨i + 1, by first | rfl | simp, by omega, ?_⟩
            have e : crashN st.loose ks st.now (i + 1) = crashN st.loose ks st.now i := by
              rw [crashN, if_neg (by rw [hle.out]; decide)]
            rw [e]
            exact hW
end Go.Proofs.Ytnffhdlkkfphbaa.D
