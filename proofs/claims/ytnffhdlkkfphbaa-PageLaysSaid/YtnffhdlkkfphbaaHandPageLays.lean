/- Pages are written to a disk, and read, just as the chapter says, whatever stands in its sectors. No condition. -/
import Derived.Test.YtnffhdlkkfphbaaRb
import Derived.OpenShut
namespace Go.Proofs.Ytnffhdlkkfphbaa.Pure
set_option linter.unusedVariables false
set_option linter.unusedSimpArgs false
open Go.RowKit Go.Proofs.Ytnffhdlkkfphbaa.D Go.Proofs.YtnffhdlkkfphbaaW.PrintWords Go.Proofs.YtnffhdlkkfphbaaW.PrintLast Go.Proofs.YtnffhdlkkfphbaaW.PrintMore
open Go.Lib (hid)
theorem page_write_alike {st : St} {rf : Int} {i : Nat} (h : D.Alike st rf i) (n kind : Int) (text : ByteArray) :
    ∃ st2 rf2 r, (if sealOk kind text then (writes st n (sealB kind text)).1 else 1) = r ∧ (if sealOk kind text then (writes st n (sealB kind text)).2 else st) = st2 ∧ (if sealOk kind text then (rwrites (withF st rf) n (sealB kind text)).1 else 1) = r ∧
      (if sealOk kind text then (rwrites (withF st rf) n (sealB kind text)).2 else withF st rf) = withF st2 rf2 ∧ D.Alike st2 rf2 (i + 1) := by
  by_cases hc : sealOk kind text
  · obtain ⟨st2, rf2, e1, e2, e3, ha⟩ := alike_write h n (sealB kind text)
    refine ⟨st2, rf2, _, if_pos hc, ?_, ?_, ?_, ha⟩
    · rw [if_pos hc, e2]
    · rw [if_pos hc, e1]
    · rw [if_pos hc, e3]
  · exact ⟨st, rf, 1, if_neg hc, if_neg hc, if_neg hc, if_neg hc, ⟨h.fuse, h.rf, h.keys, Nat.le_succ_of_le h.len⟩⟩
theorem below_frK {w W : World} {B : Nat} (h : Fr (fun i => ¬ i < B) w W) (hB : B ≤ w.heap.size) : Below B w W := ⟨h.os, h.tape, h.output, h.size, fun k hk => h.keep k (by omega) (fun hn => hn hk)⟩
theorem made_two {w w1 w2 : World} {d x n : Nat} (hD : DiskAt (fun i => w.heap.size ≤ i) w1 d { now := List.replicate n zeros, loose := [], fuse := -1, gone := false }) (hb1 : Below w.heap.size w w1) (hR : RefAt (fun i => w1.heap.size ≤ i) w2 x { now := List.replicate n zeros, loose := [], fuse := -1, gone := false }) (hb2 : Below w1.heap.size w1 w2) :
    ∃ st rf, Two (fun i => i < w.heap.size) w2 d x st (withF st rf) ∧ D.Alike st rf 0 := ⟨_, -1, Two.made hD hb1 hR hb2, ⟨(by decide : (-1 : Int) = max (-1) (-1)), (by decide : (-9223372036854775808 : Int) ≤ -1 ∧ (-1 : Int) ≤ 9223372036854775807), List.nodup_nil, Nat.zero_le _⟩⟩
set_option maxHeartbeats 2000000 in
set_option maxRecDepth 100000 in
theorem PageLays_walk (a0 : Int) (a1 : Int) (a2 : ByteArray) (a3 : Int) (a4 : Int) (a5 : ByteArray) (a6 : Int) (w : World) (w0 : (Lit.int .i64 a0).wf = true) (w1 : (Lit.int .i64 a1).wf = true) (w2 : a2.size ≤ 140737488351232) (w3 : (Lit.int .i64 a3).wf = true) (w4 : (Lit.int .i64 a4).wf = true) (w5 : a5.size ≤ 140737488351232) (w6 : (Lit.int .i64 a6).wf = true) :
    Calls Try.prog 12 #[.int .i64 a0, .int .i64 a1, .string a2, .int .i64 a3, .int .i64 a4, .string a5, .int .i64 a6] w fun e w' => e = .returned (.bool true) ∧ Below w.heap.size w w' := by
  obtain ⟨m, hm0, hm1⟩ := natOf a0 (bounds_i64 w0)
  replace hm0 := hid (And.intro hm0 hm1)
  have hE := hid (fun W => G.bailiwicklaw07_examples.calls 10 true W ex_eq)
  obtain ⟨N, hN⟩ : ∃ N : Nat, N = 8 + m % 13 := ⟨_, rfl⟩
  have hN1 : Hid (8 + Int.tmod (m : Int) 13 = (N : Int)) := hid (by rw [show Int.tmod (m : Int) 13 = ((m % 13 : Nat) : Int) from rfl]; omega)
  have hN2 : Hid (8 + (m : Int) % 13 = (N : Int)) := hid (by omega)
  have hNe := hid (fun W => New.ok N (by omega) W)
  have hNr := hid (fun W => RNew.ok N (by omega) W)
  replace w4 := hid w4
  replace w5 := hid w5
  clear w0 w1 w2 w3 w6 hm1 hN
  by_cases h0 : a0 < 0
  all_goals
    go_enter Try.func12, Try.ntmps12
    (try dsimp only [List.append])
    go_upto_region 6 with (first | ((with_reducible refine Calls.mono (hE.out _) ?_); rintro e u1 ⟨rfl, hb1⟩; replace hb1 := hid hb1))
    (first | rw [hm0.out.1 h0] | (have e := hm0.out.2 (by omega); subst e))
    clear hm0 hE
    (try clear h0)
    go_upto_region 7 with fail
    (first | rw [hN2.out] | rw [hN1.out])
    clear hN1 hN2
    go_upto_region 11 with (first | ((with_reducible refine Calls.mono (hNe.out _) ?_); rintro e u2 ⟨d, rfl, hD, hb2⟩; replace hD := hid hD; replace hb2 := hid hb2) | ((with_reducible refine Calls.mono (hNr.out _) ?_); rintro e u3 ⟨x, rfl, hR, hb3⟩; replace hR := hid hR; replace hb3 := hid hb3))
    obtain ⟨st0, rf0, hT0, ha0⟩ := made_two hD.out hb2.out hR.out hb3.out
    have hF3 : Hid (Fr (fun q => ¬ q < u1.heap.size) u1 u3) := hid (below_fr (hb2.out.trans (hb3.out.mono hb2.out.size)))
    clear hNe hNr hD hR hb2 hb3
    obtain ⟨st1, rf1, e1, e2, e3, ha1⟩ := alike_write ha0 a1 a2
    have hW1 : Hid (Calls Try.prog 23 #[.pointer (some ⟨d, 0, none⟩), .int .i64 a1, .string a2] u3 fun e w' => e = .returned (.int .i64 (writes st0 a1 a2).1) ∧ Two (fun q => q < u1.heap.size) w' d x st1 (withF st0 rf0) ∧ Fr (fun q => ¬ q < u1.heap.size) u3 w') := hid (by
      have h := Two.Write _ d x st0 _ u3 hT0 (fun i hi => Nat.lt_of_lt_of_le hi hF3.out.size) a1 a2 (by have := ha0.len; omega)
      rw [e2] at h
      exact h)
    have hW2 : Hid (∀ W, Two (fun q => q < u1.heap.size) W d x st1 (withF st0 rf0) → Fr (fun q => ¬ q < u1.heap.size) u1 W → Calls Try.prog 35 #[.pointer (some ⟨x, 0, none⟩), .int .i64 a1, .string a2] W fun e w' => e = .returned (.int .i64 (writes st0 a1 a2).1) ∧ Two (fun q => q < u1.heap.size) w' d x st1 (withF st1 rf1) ∧ Fr (fun q => ¬ q < u1.heap.size) W w') := hid (fun W hT hf => by
      have h := Two.RWrite _ d x st1 _ W hT (fun i hi => Nat.lt_of_lt_of_le hi hf.size) a1 a2 (by have := ha0.len; show st0.loose.length ≤ 10000; omega)
      rw [e1, e3] at h
      exact h)
    obtain ⟨st2, rf2, r2, g1, g2, g3, g4, ha2⟩ := page_write_alike ha1 a3 a4 a5
    have hP1 : Hid (∀ W, Two (fun q => q < u1.heap.size) W d x st1 (withF st1 rf1) → Fr (fun q => ¬ q < u1.heap.size) u1 W → Calls Try.prog 36 #[.pointer (some ⟨d, 0, none⟩), .int .i64 a3, .int .i64 a4, .string a5] W fun e w' => e = .returned (.int .i64 r2) ∧ Two (fun q => q < u1.heap.size) w' d x st2 (withF st1 rf1) ∧ Fr (fun q => ¬ q < u1.heap.size) W w') := hid (fun W hT hf => by
      have h := PWrite.calls _ d x st1 _ W hT (fun i hi => Nat.lt_of_lt_of_le hi hf.size) a3 a4 a5 (by have := ha1.len; omega)
      rw [g1, g2] at h
      exact h)
    have hP2 : Hid (∀ W, Two (fun q => q < u1.heap.size) W d x st2 (withF st1 rf1) → Fr (fun q => ¬ q < u1.heap.size) u1 W → Calls Try.prog 37 #[.pointer (some ⟨x, 0, none⟩), .int .i64 a3, .int .i64 a4, .string a5] W fun e w' => e = .returned (.int .i64 r2) ∧ Two (fun q => q < u1.heap.size) w' d x st2 (withF st2 rf2) ∧ Fr (fun q => ¬ q < u1.heap.size) W w') := hid (fun W hT hf => by
      have h := PRWrite.calls _ d x st2 _ W hT (fun i hi => Nat.lt_of_lt_of_le hi hf.size) a3 a4 a5 w4.out w5.out (by have := ha1.len; show st1.loose.length ≤ 10000; omega)
      rw [g3, g4] at h
      exact h)
    have hQ1 : Hid (∀ W n, Two (fun q => q < u1.heap.size) W d x st2 (withF st2 rf2) → Calls Try.prog 38 #[.pointer (some ⟨d, 0, none⟩), .int .i64 n] W fun e w' => e = .returned (.tuple #[.int .i64 (preads st2 n).1, .string (preads st2 n).2.1, .int .i64 (preads st2 n).2.2]) ∧ Below W.heap.size W w') := hid (fun W n hT => PRead.calls _ d x st2 _ W hT n)
    have hQ2 : Hid (∀ W n, Two (fun q => q < u1.heap.size) W d x st2 (withF st2 rf2) → Calls Try.prog 39 #[.pointer (some ⟨x, 0, none⟩), .int .i64 n] W fun e w' => e = .returned (.tuple #[.int .i64 (preads st2 n).1, .string (preads st2 n).2.1, .int .i64 (preads st2 n).2.2]) ∧ Below W.heap.size W w') := hid (fun W n hT => PRRead.calls _ d x st2 _ W hT n)
    clear e1 e2 e3 ha1 g1 g2 g3 g4 ha2 hT0 ha0
    generalize (writes st0 a1 a2).1 = r1 at *
    generalize preads st2 = pr at *
    go_upto_region 13 with (first | ((with_reducible refine Calls.mono hW1.out ?_); rintro e u4 ⟨rfl, hT4, hf4⟩; replace hT4 := hid hT4; replace hf4 := hid (hF3.out.trans hf4)) | ((with_reducible refine Calls.mono (hW2.out _ hT4.out hf4.out) ?_); rintro e u5 ⟨rfl, hT5, hf5⟩; replace hT5 := hid hT5; replace hf5 := hid (hf4.out.trans hf5)))
    clear hW1 hW2 hT4 hf4 hF3
    go_upto_region 15 with (first | ((with_reducible refine Calls.mono (hP1.out _ hT5.out hf5.out) ?_); rintro e u6 ⟨rfl, hT6, hf6⟩; replace hT6 := hid hT6; replace hf6 := hid (hf5.out.trans hf6)) | ((with_reducible refine Calls.mono (hP2.out _ hT6.out hf6.out) ?_); rintro e u7 ⟨rfl, hT7, hf7⟩; replace hT7 := hid hT7; replace hf7 := hid (hf6.out.trans hf7)))
    clear hP1 hP2 hT5 hf5 hT6 hf6
    go_upto_region 16 with (first | ((with_reducible refine Calls.mono (hQ1.out _ _ hT7.out) ?_); rintro e u8 ⟨rfl, hb8⟩; have hT8 := hid (hT7.out.below hb8); have hf8 := hid (hf7.out.trans (below_fr hb8)); clear hb8))
    go_upto_region 17 with (first | ((with_reducible refine Calls.mono (hQ2.out _ _ hT8.out) ?_); rintro e u9 ⟨rfl, hb9⟩; have hT9 := hid (hT8.out.below hb9); have hf9 := hid (hf8.out.trans (below_fr hb9)); clear hb9))
    go_upto_region 18 with (first | ((with_reducible refine Calls.mono (hQ1.out _ _ hT9.out) ?_); rintro e ua ⟨rfl, hba⟩; have hTa := hid (hT9.out.below hba); have hfa := hid (hf9.out.trans (below_fr hba)); clear hba))
    go_wp2_with (first | ((with_reducible refine Calls.mono (hQ2.out _ _ hTa.out) ?_); rintro e ub ⟨rfl, hbb⟩; have hfb := hid (hfa.out.trans (below_fr hbb)); clear hbb))
    go_ret
    exact ⟨rfl, hb1.out.trans ((below_frK hfb.out (Nat.le_refl _)).mono hb1.out.size)⟩
end Go.Proofs.Ytnffhdlkkfphbaa.Pure
