/-
  plain, Right.
  plain and Right at the chapter's example.
-/
import Derived.Test.YtnghbfegijnolaaA7
namespace Go.Proofs.Ytnghbfegijnolaa.A
set_option linter.unusedVariables false
set_option linter.unusedSimpArgs false
open Go.RowKit Go.Proofs.YtnghbfegijnolaaW.PrintWords Go.Proofs.YtnghbfegijnolaaW.PrintLast Go.Proofs.YtnghbfegijnolaaW.PrintMore
open Go.Lib (hid)
set_option maxHeartbeats 1000000 in
set_option maxRecDepth 100000 in
theorem long_walk (s : ByteArray) (w : World) : Calls Try.prog 63 #[.string s] w fun e w' => e = .returned (.bool (decide (40 < (s.size : Int)))) ∧ w = w' := by
  go_enter Try.func63, Try.ntmps63
  go_wp2_with fail
  go_ret
  exact ⟨rfl, rfl⟩
def wrongB (k : Int) : Bool := decide (k < 2) || decide (640 ≤ k)
set_option maxHeartbeats 1000000 in
set_option maxRecDepth 100000 in
theorem wrong_walk (k : Int) (w : World) : Calls Try.prog 64 #[.int .i64 k] w fun e w' => e = .returned (.bool (wrongB k)) ∧ w = w' := by
  by_cases h : k < 2
  · go_enter Try.func64, Try.ntmps64
    go_wp2_with fail
    go_ret
    exact ⟨by simp [wrongB, h], rfl⟩
  · by_cases h2 : 640 ≤ k
    · go_enter Try.func64, Try.ntmps64
      go_wp2_with fail
      go_ret
      exact ⟨by simp [wrongB, h, h2], rfl⟩
    · go_enter Try.func64, Try.ntmps64
      go_wp2_with fail
      go_ret
      exact ⟨by simp [wrongB, h, h2], rfl⟩
set_option maxHeartbeats 1000000 in
set_option maxRecDepth 100000 in
theorem index_S (xs : List ByteArray) (A : Option Addr) (c : Nat) (w : World) (H : (Kd.string).C w A xs.length xs) (hl : xs.length ≤ 1099511627776) :
    Calls Try.prog 68 #[.slice A xs.length c, .func (.func 63) #[] #[]] w fun e w' => ∃ i : Int, e = .returned (.int .i64 i) ∧ decide (0 ≤ i) = xs.any (fun s => decide (40 < (s.size : Int))) ∧ w = w' := by
  have HC := hid (fun i hi => C_one H (⟨#[]⟩ : ByteArray) i hi)
  have HW := hid (fun x W => long_walk x W)
  generalize hn : xs.length = n at *
  replace hn := hid hn
  clear H
  go_enter Try.func68, Try.ntmps68
  go_wp2_with fail
  go_loopg [8] n (fun g i wr => ∃ k : Nat, i = .int .i64 (k : Int) ∧ k + g = n ∧ Hid (wr = w) ∧ Hid ((xs.drop k).any (fun s => decide (40 < (s.size : Int))) = xs.any (fun s => decide (40 < (s.size : Int)))))
  case atStart => exact ⟨0, rfl, by omega, hid rfl, hid (by rw [List.drop_zero])⟩
  case round =>
    obtain ⟨k, rfl, hk, hwr, hA⟩ := hrel
    rw [hwr.out]
    by_cases hlt : k < n
    · cases gk with
      | zero => omega
      | succ g =>
        have a1 : (k : Int) < (n : Int) := by omega
        obtain ⟨ad, e, hc⟩ := HC.out k (by omega)
        subst e
        have hA2 := hA.out
        rw [drop_getD xs (⟨#[]⟩ : ByteArray) k (by rw [hn.out]; omega), List.any_cons] at hA2
        generalize xs.getD k (⟨#[]⟩ : ByteArray) = x at hc hA2
        have hA3 : (decide (40 < (x.size : Int)) || (xs.drop (k + 1)).any (fun s => decide (40 < (s.size : Int)))) = xs.any (fun s => decide (40 < (s.size : Int))) := hA2
        have hW := hid (fun W => long_walk x W)
        generalize decide (40 < (x.size : Int)) = q at hA3 hW
        have hx := hid hA3
        clear hA hA2 hA3
        cases q with
        | true =>
          go_wp2_with (first | ((with_reducible refine Calls.mono (hW.out _) ?_); rintro r w3 ⟨rfl, rfl⟩))
          go_ret
          exact ⟨_, rfl, by rw [← hx.out]; simp, rfl⟩
        | false =>
          go_wp2_with (first | ((with_reducible refine Calls.mono (hW.out _) ?_); rintro r w3 ⟨rfl, rfl⟩))
          go_roundg g
          case measure => omega
          case rel => exact ⟨k + 1, by first | rfl | go_num, by omega, hid rfl, hid (by have h := hx.out; rw [Bool.false_or] at h; exact h)⟩
    · have hA2 := hA.out
      rw [List.drop_eq_nil_of_le (by rw [hn.out]; omega)] at hA2
      replace hA2 := hid hA2
      clear hA
      have a1 : ¬ ((k : Int) < (n : Int)) := by omega
      go_wp2_with fail
      go_ret
      exact ⟨_, rfl, by rw [← hA2.out]; rfl, rfl⟩
set_option maxHeartbeats 1000000 in
set_option maxRecDepth 100000 in
theorem contains_S (xs : List ByteArray) (A : Option Addr) (c : Nat) (w : World) (H : (Kd.string).C w A xs.length xs) (hl : xs.length ≤ 1099511627776) :
    Calls Try.prog 65 #[.slice A xs.length c, .func (.func 63) #[] #[]] w fun e w' => e = .returned (.bool (xs.any (fun s => decide (40 < (s.size : Int))))) ∧ w = w' := by
  have HI := hid (fun W H => index_S xs A c W H hl)
  have H0 := hid H
  clear H
  generalize xs.length = n at *
  generalize xs.any (fun s => decide (40 < (s.size : Int))) = q at *
  go_enter Try.func65, Try.ntmps65
  go_wp2_with (first | ((with_reducible refine Calls.mono (HI.out _ H0.out) ?_); rintro r w3 ⟨i, rfl, hi, rfl⟩; replace hi := hid hi))
  all_goals (go_ret; refine ⟨?_, rfl⟩; rw [← hi.out]; first | rfl | (congr 2; first | rfl | simp [*]; done))
set_option maxHeartbeats 1000000 in
set_option maxRecDepth 100000 in
theorem index_I (xs : List Int) (A : Option Addr) (c : Nat) (w : World) (H : (Kd.int .i64).C w A xs.length xs) (hl : xs.length ≤ 1099511627776) :
    Calls Try.prog 69 #[.slice A xs.length c, .func (.func 64) #[] #[]] w fun e w' => ∃ i : Int, e = .returned (.int .i64 i) ∧ decide (0 ≤ i) = xs.any (wrongB) ∧ w = w' := by
  have HC := hid (fun i hi => C_one H (0 : Int) i hi)
  have HW := hid (fun x W => wrong_walk x W)
  generalize hn : xs.length = n at *
  replace hn := hid hn
  clear H
  go_enter Try.func69, Try.ntmps69
  go_wp2_with fail
  go_loopg [8] n (fun g i wr => ∃ k : Nat, i = .int .i64 (k : Int) ∧ k + g = n ∧ Hid (wr = w) ∧ Hid ((xs.drop k).any (wrongB) = xs.any (wrongB)))
  case atStart => exact ⟨0, rfl, by omega, hid rfl, hid (by rw [List.drop_zero])⟩
  case round =>
    obtain ⟨k, rfl, hk, hwr, hA⟩ := hrel
    rw [hwr.out]
    by_cases hlt : k < n
    · cases gk with
      | zero => omega
      | succ g =>
        have a1 : (k : Int) < (n : Int) := by omega
        obtain ⟨ad, e, hc⟩ := HC.out k (by omega)
        subst e
        have hA2 := hA.out
        rw [drop_getD xs (0 : Int) k (by rw [hn.out]; omega), List.any_cons] at hA2
        generalize xs.getD k (0 : Int) = x at hc hA2
        have hA3 : (wrongB x || (xs.drop (k + 1)).any (wrongB)) = xs.any (wrongB) := hA2
        have hW := hid (fun W => wrong_walk x W)
        generalize wrongB x = q at hA3 hW
        have hx := hid hA3
        clear hA hA2 hA3
        cases q with
        | true =>
          go_wp2_with (first | ((with_reducible refine Calls.mono (hW.out _) ?_); rintro r w3 ⟨rfl, rfl⟩))
          go_ret
          exact ⟨_, rfl, by rw [← hx.out]; simp, rfl⟩
        | false =>
          go_wp2_with (first | ((with_reducible refine Calls.mono (hW.out _) ?_); rintro r w3 ⟨rfl, rfl⟩))
          go_roundg g
          case measure => omega
          case rel => exact ⟨k + 1, by first | rfl | go_num, by omega, hid rfl, hid (by have h := hx.out; rw [Bool.false_or] at h; exact h)⟩
    · have hA2 := hA.out
      rw [List.drop_eq_nil_of_le (by rw [hn.out]; omega)] at hA2
      replace hA2 := hid hA2
      clear hA
      have a1 : ¬ ((k : Int) < (n : Int)) := by omega
      go_wp2_with fail
      go_ret
      exact ⟨_, rfl, by rw [← hA2.out]; rfl, rfl⟩
set_option maxHeartbeats 1000000 in
set_option maxRecDepth 100000 in
theorem contains_I (xs : List Int) (A : Option Addr) (c : Nat) (w : World) (H : (Kd.int .i64).C w A xs.length xs) (hl : xs.length ≤ 1099511627776) :
    Calls Try.prog 66 #[.slice A xs.length c, .func (.func 64) #[] #[]] w fun e w' => e = .returned (.bool (xs.any (wrongB))) ∧ w = w' := by
  have HI := hid (fun W H => index_I xs A c W H hl)
  have H0 := hid H
  clear H
  generalize xs.length = n at *
  generalize xs.any (wrongB) = q at *
  go_enter Try.func66, Try.ntmps66
  go_wp2_with (first | ((with_reducible refine Calls.mono (HI.out _ H0.out) ?_); rintro r w3 ⟨i, rfl, hi, rfl⟩; replace hi := hid hi))
  all_goals (go_ret; refine ⟨?_, rfl⟩; rw [← hi.out]; first | rfl | (congr 2; first | rfl | simp [*]; done))
def exN : Nd := ⟨true, [7], [⟨#[97, 98, 99]⟩], []⟩
set_option maxHeartbeats 1000000 in
set_option maxRecDepth 100000 in
theorem plain_ex (v : Value) (w : World) (H : At w v exN) : Calls Try.prog 56 #[v] w fun e w' => e = .returned (.bool true) ∧ Below w.heap.size w w' := by
  obtain ⟨A1, c1, A2, c2, A3, c3, rfl, ⟨h1, l1⟩, ⟨h2, l2⟩, ⟨h3, l3⟩⟩ := H
  have HA : Hid (∀ W, Below w.heap.size w W → At W (.agg #[.bool true, .slice A1 1 c1, .slice A2 1 c2, .slice A3 0 c3]) exN) := hid (fun W (hb : Below w.heap.size w W) => At.mk_ (x := exN) (Kd.C_below h1 hb) l1 (Kd.C_below h2 hb) l2 (Kd.C_below h3 hb) l3)
  have hB := hid (below_alloc (Below.refl w.heap.size w) (.cells #[.bool true, .slice A1 1 c1, .slice A2 1 c2, .slice A3 0 c3] 29))
  have hx : Hid ((w.alloc (.cells #[.bool true, .slice A1 1 c1, .slice A2 1 c2, .slice A3 0 c3] 29)).heap[w.heap.size]? = some (.cells #[.bool true, .slice A1 1 c1, .slice A2 1 c2, .slice A3 0 c3] 29 (0, 0))) := hid Array.getElem?_push_size
  have HV := hid (fun W (hb : Below w.heap.size w W) => contains_S [⟨#[97, 98, 99]⟩] A2 c2 W (Kd.C_below h2 hb) (by decide))
  have HK := hid (fun W (hb : Below w.heap.size w W) => contains_I [] A3 c3 W (Kd.C_below h3 hb) (by decide))
  clear h1 h2 h3 l1 l2 l3 HA
  go_enter Try.func56, Try.ntmps56
  go_upto_region 1 with fail
  change Code.wp _ _ _ _ (w.alloc (.cells #[.bool true, .slice A1 1 c1, .slice A2 1 c2, .slice A3 0 c3] 29))
  generalize w.alloc (.cells #[.bool true, .slice A1 1 c1, .slice A2 1 c2, .slice A3 0 c3] 29) = w1 at *
  have d0 : w1.cell? ⟨w.heap.size, 0, none⟩ = some (.bool true) := (blk_cell hx.out 0).trans rfl
  have d1 : w1.cell? ⟨w.heap.size, 1, none⟩ = some (.slice A1 1 c1) := (blk_cell hx.out 1).trans rfl
  have d2 : w1.cell? ⟨w.heap.size, 2, none⟩ = some (.slice A2 1 c2) := (blk_cell hx.out 2).trans rfl
  have d3 : w1.cell? ⟨w.heap.size, 3, none⟩ = some (.slice A3 0 c3) := (blk_cell hx.out 3).trans rfl
  go_wp2_with fail
  have E0 := hid d0
  have E1 := hid d1
  have E2 := hid d2
  have E3 := hid d3
  clear d0 d1 d2 d3
  go_loopg [33] 1 (fun g i wr => Hid (Below w1.heap.size w1 wr) ∧ ((g = 1 ∧ i = .int .i64 0) ∨ (g = 0 ∧ i = .int .i64 1)))
  case atStart => exact ⟨hid (Below.refl _ _), .inl ⟨rfl, rfl⟩⟩
  case round =>
    obtain ⟨hwr, hcase⟩ := hrel
    have d0 := pw_cell_below hwr.out E0.out
    have d1 := pw_cell_below hwr.out E1.out
    have d2 := pw_cell_below hwr.out E2.out
    have d3 := pw_cell_below hwr.out E3.out
    have hBw := hid (below_then hB.out hB.out.size hwr.out)
    rcases hcase with ⟨rfl, rfl⟩ | ⟨rfl, rfl⟩
    · go_wp2_with fail
      go_region
      go_wp2_with fail
      go_roundg 0
      case measure => omega
      case rel => exact ⟨hid (Below.trans hwr.out (below_drew (Below.refl _ _))), .inr ⟨rfl, rfl⟩⟩
    · go_wp2_with (first | ((with_reducible refine Calls.mono (HV.out _ hBw.out) ?_); rintro r w3 ⟨rfl, rfl⟩) | ((with_reducible refine Calls.mono (HK.out _ hBw.out) ?_); rintro r w4 ⟨rfl, rfl⟩))
      go_ret
      exact ⟨rfl, hBw.out⟩
set_option maxHeartbeats 1000000 in
set_option maxRecDepth 100000 in
theorem right_ex (v : Value) (w : World) (H : At w v exN) : Calls Try.prog 38 #[v] w fun e w' => e = .returned (.bool true) ∧ Below w.heap.size w w' := by
  obtain ⟨A1, c1, A2, c2, A3, c3, rfl, ⟨h1, l1⟩, ⟨h2, l2⟩, ⟨h3, l3⟩⟩ := H
  have HA : Hid (∀ W, Below w.heap.size w W → At W (.agg #[.bool true, .slice A1 1 c1, .slice A2 1 c2, .slice A3 0 c3]) exN) := hid (fun W (hb : Below w.heap.size w W) => At.mk_ (x := exN) (Kd.C_below h1 hb) l1 (Kd.C_below h2 hb) l2 (Kd.C_below h3 hb) l3)
  have hB := hid (below_alloc (Below.refl w.heap.size w) (.cells #[.bool true, .slice A1 1 c1, .slice A2 1 c2, .slice A3 0 c3] 29))
  have hx : Hid ((w.alloc (.cells #[.bool true, .slice A1 1 c1, .slice A2 1 c2, .slice A3 0 c3] 29)).heap[w.heap.size]? = some (.cells #[.bool true, .slice A1 1 c1, .slice A2 1 c2, .slice A3 0 c3] 29 (0, 0))) := hid Array.getElem?_push_size
  have HP := hid (fun v W H => plain_ex v W H)
  have HS := hid (fun v W H => size_walk exN v W H (by decide) (by decide) (by decide) (by decide))
  rw [show sizeF exN = 13 by decide] at HS
  clear h1 h2 h3 l1 l2 l3
  go_enter Try.func38, Try.ntmps38
  go_upto_region 1 with fail
  change Code.wp _ _ _ _ (w.alloc (.cells #[.bool true, .slice A1 1 c1, .slice A2 1 c2, .slice A3 0 c3] 29))
  generalize w.alloc (.cells #[.bool true, .slice A1 1 c1, .slice A2 1 c2, .slice A3 0 c3] 29) = w1 at *
  have d0 : w1.cell? ⟨w.heap.size, 0, none⟩ = some (.bool true) := (blk_cell hx.out 0).trans rfl
  have d1 : w1.cell? ⟨w.heap.size, 1, none⟩ = some (.slice A1 1 c1) := (blk_cell hx.out 1).trans rfl
  have d2 : w1.cell? ⟨w.heap.size, 2, none⟩ = some (.slice A2 1 c2) := (blk_cell hx.out 2).trans rfl
  have d3 : w1.cell? ⟨w.heap.size, 3, none⟩ = some (.slice A3 0 c3) := (blk_cell hx.out 3).trans rfl
  go_wp2_with (first | ((with_reducible refine Calls.mono (HP.out _ _ (HA.out _ hB.out)) ?_); rintro r w3 ⟨rfl, hb3⟩; replace hx := hid ((hb3.block _ (blk_lt hx.out)).trans hx.out); have q0 : w3.cell? ⟨w.heap.size, 0, none⟩ = some (.bool true) := (blk_cell hx.out 0).trans rfl; have q1 : w3.cell? ⟨w.heap.size, 1, none⟩ = some (.slice A1 1 c1) := (blk_cell hx.out 1).trans rfl; have q2 : w3.cell? ⟨w.heap.size, 2, none⟩ = some (.slice A2 1 c2) := (blk_cell hx.out 2).trans rfl; have q3 : w3.cell? ⟨w.heap.size, 3, none⟩ = some (.slice A3 0 c3) := (blk_cell hx.out 3).trans rfl; replace hB := hid (below_then hB.out hB.out.size hb3)) | ((with_reducible refine Calls.mono (HS.out _ _ (HA.out _ hB.out)) ?_); rintro r w4 ⟨rfl, hb4⟩; replace hB := hid (below_then hB.out hB.out.size hb4)))
  go_ret
  exact ⟨rfl, hB.out⟩
end Go.Proofs.Ytnghbfegijnolaa.A
