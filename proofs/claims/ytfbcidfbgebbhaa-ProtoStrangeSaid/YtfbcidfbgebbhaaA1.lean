/-
  The walk of TakeReply.
-/
import Derived.Test.YtfbcidfbgebbhaaA0
namespace Go.Proofs.Ytfbcidfbgebbhaa.A
set_option linter.unusedVariables false
set_option linter.unusedSimpArgs false
open Go.RowKit Go.Proofs.YtfbcidfbgebbhaaW.PrintWords Go.Proofs.YtfbcidfbgebbhaaW.PrintLast Go.Proofs.YtfbcidfbgebbhaaW.PrintMore
open Go.Lib (hid)
theorem results_tmp4 {fn : Func} {t u v x : Tmp} (h : fn.results = #[.tmp t, .tmp u, .tmp v, .tmp x]) (tmps : Array Value) (P : Program) (w : World) :
    (results fn tmps).run P w = .ok (.tuple #[tmps.getD t undef, tmps.getD u undef, tmps.getD v undef, tmps.getD x undef]) w := by
  simp [results, h]
set_option maxHeartbeats 1000000 in
set_option maxRecDepth 100000 in
theorem TakeReply.calls (k : Nat) (b : ByteArray) (x0 : Int) (b1 : ByteArray) (e0 id : Int) (b2 : ByteArray) (e1 c : Int) (b3 : ByteArray) (e2 : Int) (body b4 : ByteArray) (e3 : Int) (s : ByteArray) (e : Int) (w : World)
    (h0 : P.num_Take.f 40 b 1 = some (x0, b1, e0)) (h1 : P.num_Take.f 40 b1 4 = some (id, b2, e1)) (h2 : P.num_Take.f 40 b2 1 = some (c, b3, e2)) (h3 : P.num_TakeText.f b3 = some (body, b4, e3)) (hR : P.proto_Reply.f k id c body = some (s, e))
    (hi : 0 ≤ id ∧ id < 4294967296) (hc : 0 ≤ c ∧ c < 256) (bad : Bool) (hbad : bad = ((((false || (e0 != 0)) || (e1 != 0)) || (e2 != 0)) || (e3 != 0))) :
    Calls Try.prog 14 #[.string b] w fun r w' => r = .returned (.tuple (if bad = false ∧ e = 0 ∧ s = b then #[.int .i64 id, .int .i64 c, .string body, .int .i64 0] else #[.int .i64 0, .int .i64 0, .string ⟨#[]⟩, .int .i64 2])) ∧ Below w.heap.size w w' := by
  obtain ⟨res, hres⟩ : ∃ v : Value, v = .tuple (if bad = false ∧ e = 0 ∧ s = b then #[.int .i64 id, .int .i64 c, .string body, .int .i64 0] else #[.int .i64 0, .int .i64 0, .string ⟨#[]⟩, .int .i64 2]) := ⟨_, rfl⟩
  rw [← hres]
  replace hres := hid hres
  have hS : Hid (Rd w.heap.size b false w (w.alloc (.cells #[.string b, .bool false] 89))) := hid (Rd.start b (Below.refl w.heap.size w))
  have N0 := hid (fun g W (h : Rd g b false w W) => rnum 40 g b false 1 x0 b1 e0 w W h0 h)
  have N1 := hid (fun g W (h : Rd g b1 (false || (e0 != 0)) w W) => rnum 40 g b1 _ 4 id b2 e1 w W h1 h)
  have N2 := hid (fun g W (h : Rd g b2 ((false || (e0 != 0)) || (e1 != 0)) w W) => rnum 40 g b2 _ 1 c b3 e2 w W h2 h)
  have N3 := hid (fun g W (h : Rd g b3 (((false || (e0 != 0)) || (e1 != 0)) || (e2 != 0)) w W) => rtext g b3 _ body b4 e3 w W h3 h)
  rw [← hbad] at N3
  have R := hid (fun W => P.proto_Reply.calls k id c body s e W hR)
  have q1 : id < 9223372036854775808 := by omega
  have q2 : c < 9223372036854775808 := by omega
  have q3 : 0 ≤ id := hi.1
  have q4 : 0 ≤ c := hc.1
  clear h0 h1 h2 h3 hR hi hc hbad
  go_enter Try.func14, Try.ntmps14
  go_upto_region 2 with fail
  generalize w.alloc (.cells #[.string b, .bool false] 89) = w1 at *
  obtain ⟨g, hg⟩ : ∃ g, g = w.heap.size := ⟨_, rfl⟩
  rw [← hg] at hS ⊢
  replace hg := hid hg
  go_upto_region 5 with (first | ((with_reducible refine Calls.mono (N0.out _ _ hS.out) ?_); rintro r w2 ⟨rfl, hS2⟩; replace hS2 := hid hS2) | ((with_reducible refine Calls.mono (N1.out _ _ hS2.out) ?_); rintro r w3 ⟨rfl, hS3⟩; replace hS3 := hid hS3) | ((with_reducible refine Calls.mono (N2.out _ _ hS3.out) ?_); rintro r w4 ⟨rfl, hS4⟩; replace hS4 := hid hS4) | ((with_reducible refine Calls.mono (N3.out _ _ hS4.out) ?_); rintro r w5 ⟨rfl, hS5⟩; replace hS5 := hid hS5) | ((with_reducible refine Calls.mono (R.out _) ?_); rintro r w6 ⟨rfl, hb6⟩; have hS6 := hid (hS5.out.below hb6)))
  have d1 : w6.cell? ⟨g, 1, none⟩ = some (.bool bad) := (blk_cell hS6.out.hx 1).trans rfl
  have hB6 : Hid (Below w.heap.size w w6) := hid (hS6.out.done (by rw [hg.out]; exact Nat.le_refl _))
  clear N0 N1 N2 N3 R hS hS2 hS3 hS4 hS5 hS6
  have eqB : ∀ (a b : ByteArray), a.toList = b.toList → a = b := fun a b h => by
    rw [ByteArray.toList_eq, ByteArray.toList_eq] at h
    exact ByteArray.ext (Array.toList_inj.1 h)
  cases bad with
  | true =>
    go_wp2_with fail
    refine bodyPost_ret (results_tmp4 rfl _ _ _) rfl ?_
    refine ⟨?_, by first | exact hB6.out | (rw [hg.out]; exact hB6.out)⟩
    have hq := hres.out
    rw [if_neg (by rintro ⟨h, _⟩; cases h)] at hq
    rw [hq]
    first | rfl | simp
  | false =>
    by_cases he : e = 0
    · subst he
      by_cases hs : s = b
      · subst hs
        clear eqB
        go_wp2_with fail
        refine bodyPost_ret (results_tmp4 rfl _ _ _) rfl ?_
        refine ⟨?_, by first | exact hB6.out | (rw [hg.out]; exact hB6.out)⟩
        have hq := hres.out
        rw [if_pos (by simp)] at hq
        rw [hq]
        first | rfl | simp
      · have hne1 : (s.toList == b.toList) = false := beq_eq_false_iff_ne.2 (fun h => hs (eqB _ _ h))
        have hne2 : ¬ s.toList = b.toList := fun h => hs (eqB _ _ h)
        clear eqB
        go_wp2_with fail
        refine bodyPost_ret (results_tmp4 rfl _ _ _) rfl ?_
        refine ⟨?_, by first | exact hB6.out | (rw [hg.out]; exact hB6.out)⟩
        have hq := hres.out
        rw [if_neg (by rintro ⟨_, _, h⟩; exact hs h)] at hq
        rw [hq]
        first | rfl | simp
    · have he2 : (e != 0) = true := by simp [he]
      clear eqB
      go_wp2_with fail
      refine bodyPost_ret (results_tmp4 rfl _ _ _) rfl ?_
      refine ⟨?_, by first | exact hB6.out | (rw [hg.out]; exact hB6.out)⟩
      have hq := hres.out
      rw [if_neg (by rintro ⟨_, h, _⟩; exact he h)] at hq
      rw [hq]
      first | rfl | simp
end Go.Proofs.Ytfbcidfbgebbhaa.A
