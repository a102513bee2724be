/-
  plain, Right.
-/
import Derived.Test.YtnghbfegijnolaaA7
namespace Go.Proofs.Ytnghbfegijnolaa.A
set_option linter.unusedVariables false
set_option linter.unusedSimpArgs false
open Go.RowKit Go.Proofs.YtnghbfegijnolaaW.PrintWords Go.Proofs.YtnghbfegijnolaaW.PrintLast Go.Proofs.YtnghbfegijnolaaW.PrintMore
open Go.Lib (hid)
set_option maxHeartbeats 1000000 in
set_option maxRecDepth 100000 in
theorem long_walk (s : ByteArray) (w : World) : Calls Try.prog 63 #[.string s] w fun e w' => e = .returned (.bool (decide (40 < (s.size : Int)))) ∧ w = w' := by
  go_enter Try.func63, Try.ntmps63
  go_wp2_with fail
  go_ret
  exact ⟨rfl, rfl⟩
def wrongB (k : Int) : Bool := decide (k < 2) || decide (640 ≤ k)
set_option maxHeartbeats 1000000 in
set_option maxRecDepth 100000 in
theorem wrong_walk (k : Int) (w : World) : Calls Try.prog 64 #[.int .i64 k] w fun e w' => e = .returned (.bool (wrongB k)) ∧ w = w' := by
  by_cases h : k < 2
  · go_enter Try.func64, Try.ntmps64
    go_wp2_with fail
    go_ret
    exact ⟨by simp [wrongB, h], rfl⟩
  · by_cases h2 : 640 ≤ k
    · go_enter Try.func64, Try.ntmps64
      go_wp2_with fail
      go_ret
      exact ⟨by simp [wrongB, h, h2], rfl⟩
    · go_enter Try.func64, Try.ntmps64
      go_wp2_with fail
      go_ret
      exact ⟨by simp [wrongB, h, h2], rfl⟩
set_option maxHeartbeats 1000000 in
set_option maxRecDepth 100000 in
theorem index_S (xs : List ByteArray) (A : Option Addr) (c : Nat) (w : World) (H : (Kd.string).C w A xs.length xs) (hl : xs.length ≤ 1099511627776) :
    Calls Try.prog 68 #[.slice A xs.length c, .func (.func 63) #[] #[]] w fun e w' => ∃ i : Int, e = .returned (.int .i64 i) ∧ decide (0 ≤ i) = xs.any (fun s => decide (40 < (s.size : Int))) ∧ w = w' := by
  have HC := hid (fun i hi => C_one H (⟨#[]⟩ : ByteArray) i hi)
  have HW := hid (fun x W => long_walk x W)
  generalize hn : xs.length = n at *
  replace hn := hid hn
  clear H
  go_enter Try.func68, Try.ntmps68
  go_wp2_with fail
  go_loopg [8] n (fun g i wr => ∃ k : Nat, i = .int .i64 (k : Int) ∧ k + g = n ∧ Hid (wr = w) ∧ Hid ((xs.drop k).any (fun s => decide (40 < (s.size : Int))) = xs.any (fun s => decide (40 < (s.size : Int)))))
  case atStart => exact ⟨0, rfl, by omega, hid rfl, hid (by rw [List.drop_zero])⟩
  case round =>
    obtain ⟨k, rfl, hk, hwr, hA⟩ := hrel
    rw [hwr.out]
    by_cases hlt : k < n
    · cases gk with
      | zero => omega
      | succ g =>
        have a1 : (k : Int) < (n : Int) := by omega
        obtain ⟨ad, e, hc⟩ := HC.out k (by omega)
        subst e
        have hA2 := hA.out
        rw [drop_getD xs (⟨#[]⟩ : ByteArray) k (by rw [hn.out]; omega), List.any_cons] at hA2
        generalize xs.getD k (⟨#[]⟩ : ByteArray) = x at hc hA2
        have hA3 : (decide (40 < (x.size : Int)) || (xs.drop (k + 1)).any (fun s => decide (40 < (s.size : Int)))) = xs.any (fun s => decide (40 < (s.size : Int))) := hA2
        have hW := hid (fun W => long_walk x W)
        generalize decide (40 < (x.size : Int)) = q at hA3 hW
        have hx := hid hA3
        clear hA hA2 hA3
        cases q with
        | true =>
          go_wp2_with (first | ((with_reducible refine Calls.mono (hW.out _) ?_); rintro r w3 ⟨rfl, rfl⟩))
          go_ret
          exact ⟨_, rfl, by rw [← hx.out]; simp, rfl⟩
        | false =>
          go_wp2_with (first | ((with_reducible refine Calls.mono (hW.out _) ?_); rintro r w3 ⟨rfl, rfl⟩))
          go_roundg g
          case measure => omega
          case rel => exact ⟨k + 1, by first | rfl | go_num, by omega, hid rfl, hid (by have h := hx.out; rw [Bool.false_or] at h; exact h)⟩
    · have hA2 := hA.out
      rw [List.drop_eq_nil_of_le (by rw [hn.out]; omega)] at hA2
      replace hA2 := hid hA2
      clear hA
      have a1 : ¬ ((k : Int) < (n : Int)) := by omega
      go_wp2_with fail
      go_ret
      exact ⟨_, rfl, by rw [← hA2.out]; rfl, rfl⟩
set_option maxHeartbeats 1000000 in
set_option maxRecDepth 100000 in
theorem contains_S (xs : List ByteArray) (A : Option Addr) (c : Nat) (w : World) (H : (Kd.string).C w A xs.length xs) (hl : xs.length ≤ 1099511627776) :
    Calls Try.prog 65 #[.slice A xs.length c, .func (.func 63) #[] #[]] w fun e w' => e = .returned (.bool (xs.any (fun s => decide (40 < (s.size : Int))))) ∧ w = w' := by
  have HI := hid (fun W H => index_S xs A c W H hl)
  have H0 := hid H
  clear H
  generalize xs.length = n at *
  generalize xs.any (fun s => decide (40 < (s.size : Int))) = q at *
  go_enter Try.func65, Try.ntmps65
  go_wp2_with (first | ((with_reducible refine Calls.mono (HI.out _ H0.out) ?_); rintro r w3 ⟨i, rfl, hi, rfl⟩; replace hi := hid hi))
  all_goals (go_ret; refine ⟨?_, rfl⟩; rw [← hi.out]; first | rfl | (congr 2; first | rfl | simp [*]; done))
set_option maxHeartbeats 1000000 in
set_option maxRecDepth 100000 in
theorem index_I (xs : List Int) (A : Option Addr) (c : Nat) (w : World) (H : (Kd.int .i64).C w A xs.length xs) (hl : xs.length ≤ 1099511627776) :
    Calls Try.prog 69 #[.slice A xs.length c, .func (.func 64) #[] #[]] w fun e w' => ∃ i : Int, e = .returned (.int .i64 i) ∧ decide (0 ≤ i) = xs.any (wrongB) ∧ w = w' := by
  have HC := hid (fun i hi => C_one H (0 : Int) i hi)
  have HW := hid (fun x W => wrong_walk x W)
  generalize hn : xs.length = n at *
  replace hn := hid hn
  clear H
  go_enter Try.func69, Try.ntmps69
  go_wp2_with fail
  go_loopg [8] n (fun g i wr => ∃ k : Nat, i = .int .i64 (k : Int) ∧ k + g = n ∧ Hid (wr = w) ∧ Hid ((xs.drop k).any (wrongB) = xs.any (wrongB)))
  case atStart => exact ⟨0, rfl, by omega, hid rfl, hid (by rw [List.drop_zero])⟩
  case round =>
    obtain ⟨k, rfl, hk, hwr, hA⟩ := hrel
    rw [hwr.out]
    by_cases hlt : k < n
    · cases gk with
      | zero => omega
      | succ g =>
        have a1 : (k : Int) < (n : Int) := by omega
        obtain ⟨ad, e, hc⟩ := HC.out k (by omega)
        subst e
        have hA2 := hA.out
        rw [drop_getD xs (0 : Int) k (by rw [hn.out]; omega), List.any_cons] at hA2
        generalize xs.getD k (0 : Int) = x at hc hA2
        have hA3 : (wrongB x || (xs.drop (k + 1)).any (wrongB)) = xs.any (wrongB) := hA2
        have hW := hid (fun W => wrong_walk x W)
        generalize wrongB x = q at hA3 hW
        have hx := hid hA3
        clear hA hA2 hA3
        cases q with
        | true =>
          go_wp2_with (first | ((with_reducible refine Calls.mono (hW.out _) ?_); rintro r w3 ⟨rfl, rfl⟩))
          go_ret
          exact ⟨_, rfl, by rw [← hx.out]; simp, rfl⟩
        | false =>
          go_wp2_with (first | ((with_reducible refine Calls.mono (hW.out _) ?_); rintro r w3 ⟨rfl, rfl⟩))
          go_roundg g
          case measure => omega
          case rel => exact ⟨k + 1, by first | rfl | go_num, by omega, hid rfl, hid (by have h := hx.out; rw [Bool.false_or] at h; exact h)⟩
    · have hA2 := hA.out
      rw [List.drop_eq_nil_of_le (by rw [hn.out]; omega)] at hA2
      replace hA2 := hid hA2
      clear hA
      have a1 : ¬ ((k : Int) < (n : Int)) := by omega
      go_wp2_with fail
      go_ret
      exact ⟨_, rfl, by rw [← hA2.out]; rfl, rfl⟩
set_option maxHeartbeats 1000000 in
set_option maxRecDepth 100000 in
theorem contains_I (xs : List Int) (A : Option Addr) (c : Nat) (w : World) (H : (Kd.int .i64).C w A xs.length xs) (hl : xs.length ≤ 1099511627776) :
    Calls Try.prog 66 #[.slice A xs.length c, .func (.func 64) #[] #[]] w fun e w' => e = .returned (.bool (xs.any (wrongB))) ∧ w = w' := by
  have HI := hid (fun W H => index_I xs A c W H hl)
  have H0 := hid H
  clear H
  generalize xs.length = n at *
  generalize xs.any (wrongB) = q at *
  go_enter Try.func66, Try.ntmps66
  go_wp2_with (first | ((with_reducible refine Calls.mono (HI.out _ H0.out) ?_); rintro r w3 ⟨i, rfl, hi, rfl⟩; replace hi := hid hi))
  all_goals (go_ret; refine ⟨?_, rfl⟩; rw [← hi.out]; first | rfl | (congr 2; first | rfl | simp [*]; done))
end Go.Proofs.Ytnghbfegijnolaa.A
