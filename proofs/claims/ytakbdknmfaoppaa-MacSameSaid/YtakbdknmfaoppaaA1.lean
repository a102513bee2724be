/-
  The walk of sha.primes.
-/
import Derived.Test.YtakbdknmfaoppaaA0
namespace Go.Proofs.Ytakbdknmfaoppaa.R
set_option linter.unusedVariables false
set_option linter.unusedSimpArgs false
open Go.RowKit Go.Proofs.YtakbdknmfaoppaaW.PrintWords Go.Proofs.YtakbdknmfaoppaaW.PrintLast Go.Proofs.YtakbdknmfaoppaaW.PrintMore
open Go.Lib (hid)
theorem info40 : (Try.prog.info? 40).map (fun i => (i.zero, i.size, i.bytes)) = some (some (.int .u64 0), 1, 8) := by kernel_rfl
def divs (n : Int) (xs : List Int) : Bool := xs.any fun p => n % p == 0
def pF : Nat → Int → List Int → List Int
  | 0, _, xs => xs
  | f + 1, n, xs => if xs.length < 64 then (if divs n xs = true then pF f (n + 1) xs else pF f (n + 1) (xs ++ [n])) else xs
def primes64 : List Int := pF 400 2 []
theorem primes64_len : primes64.length = 64 := by decide +kernel
theorem divs_of {n : Int} {xs : List Int} (i : Nat) (h : i < xs.length) (hd : n % xs.getD i 0 = 0) : divs n xs = true := by
  unfold divs
  rw [List.any_eq_true]
  exact ⟨xs[i], List.getElem_mem h, by rw [← hd]; simp [h]⟩
theorem divs_not {n : Int} {xs : List Int} (hd : ∀ i, i < xs.length → n % xs.getD i 0 ≠ 0) : divs n xs = false := by
  unfold divs
  rw [List.any_eq_false]
  intro p hp
  obtain ⟨i, hi, rfl⟩ := List.getElem_of_mem hp
  have := hd i hi
  simpa [hi] using this
set_option maxHeartbeats 2000000 in
set_option maxRecDepth 100000 in
theorem primes.calls (w : World) :
    Calls Try.prog 35 #[.int .i64 64] w fun e w' => ∃ v0_ : Value, e = .returned (v0_) ∧ Kd.R (Kd.int .u64) 40 w' w.heap.size (fun _ => True) v0_ primes64 ∧ Below w.heap.size w w' := by
  obtain ⟨ps, hps⟩ : ∃ ps, primes64 = ps := ⟨_, rfl⟩
  have hpl : ps.length = 64 := by rw [← hps]; exact primes64_len
  rw [hps]
  have HQ : Hid (pF 400 2 [] = ps) := hps
  clear hps
  go_enter Try.func35, Try.ntmps35
  go_wp2_with fail
  go_step3
  go_wp2_with fail
  go_step3
  go_wp2_with fail
  go_loopg [3, 4, 6] 400 (fun g v3 v4 v6 wr => ∃ (xs : List Int) (n : Nat), v4 = .int .u64 (n : Int) ∧ Hid (Kd.R (Kd.int .u64) 40 wr w.heap.size (fun _ => True) v3 xs) ∧ Hid (Below w.heap.size w wr) ∧ 2 ≤ n ∧ n + g = 402 ∧ xs.length ≤ 64 ∧ Hid (∀ p ∈ xs, 2 ≤ p ∧ p ≤ 1000) ∧ Hid (pF g n xs = ps))
  case atStart => exact ⟨[], 2, rfl, Kd.R_nil _ _ _ _ _, Below.refl _ _, by decide, by decide, by decide, hid (fun p hp => absurd hp List.not_mem_nil), HQ⟩
  case round =>
    obtain ⟨xs, n, rfl, hR, hB, hn2, hnf, hxl, hP, hF⟩ := hrel
    obtain ⟨Ao, co, eo⟩ := Kd.R_slice hR.out
    subst eo
    by_cases hlt : xs.length < 64
    · have hlt2 : (xs.length : Int) < 64 := by omega
      cases gk with
      | zero =>
        have := hF.out
        rw [pF] at this
        rw [this] at hlt
        omega
      | succ g =>
        have hF2 := hF.out
        rw [pF, if_pos hlt] at hF2
        replace hF2 := hid hF2
        clear hF
        go_wp2_with fail
        go_loopg [6, 15] xs.length (fun g2 v6 v15 wx => ∃ (j : Nat), j + g2 = xs.length ∧ v15 = .int .i64 (j : Int) ∧ Hid (∀ i, i < j → (n : Int) % xs.getD i 0 ≠ 0) ∧ wx = wr)
        case atStart => exact ⟨0, by omega, rfl, fun i hi => by omega, rfl⟩
        case round =>
          obtain ⟨j, hj, rfl, hD, rfl⟩ := hrel
          cases gk with
          | zero =>
            have hj2 : j = xs.length := by omega
            subst hj2
            have hdv := divs_not hD.out
            have hF3 := hF2.out
            rw [hdv, if_neg (by decide)] at hF3
            replace hF3 := hid hF3
            clear hF2 hdv hD
            go_wp2_with ((with_reducible refine gate_builtin (b := .append) rfl ?_); refine Kd.R_append (Kd.int .u64) (w0 := w) w.heap.size (by rfl) (.tmp 24) (.tmp 26) 57 40 (.int .u64 0) 8 rfl Try.underlying57 info40 rfl (by decide) (by omega) _ xs (n : Int) [.int .u64 n] (fun _ => True) (fun _ => False) rfl rfl ?aP (fun _ hk => hk.elim) ?aF ?aO ?aB ?aS ?aL ?_; (case aP => exact rfl); (case aB => exact hB.out); (case aF => exact (fun _ _ => trivial)); (case aO => exact hR.out); (case aS => exact hB.out.size); (case aL => omega); intro v9 w9 ho hb hg hat; replace ho := hid ho; replace hb := hid hb; clear hg hat)
            go_roundg g
            case measure => omega
            case rel => exact ⟨xs ++ [(n : Int)], n + 1, by first | rfl | simp, ho, hb, by omega, by omega, by rw [List.length_append]; simp; omega, hid (fun p hp => by
              rcases List.mem_append.1 hp with hp | hp
              · exact hP.out p hp
              · rw [List.mem_singleton.1 hp]; omega), hF3⟩
          | succ g2 =>
            obtain ⟨ad, ea, hc⟩ := Kd.at_int (Kd.R_reads' hR.out).2.2 (j : Int) (by omega) (by omega)
            subst ea
            rw [Int.toNat_natCast] at hc
            have hjl2 : (j : Int) < (xs.length : Int) := by omega
            have hm : rd xs (j : Int) ∈ xs := by
              have hjl : j < xs.length := by omega
              have : rd xs (j : Int) = xs[j] := by simp [rd, hjl]
              rw [this]
              exact List.getElem_mem hjl
            obtain ⟨hp2, hp3⟩ := hP.out _ hm
            have hpe : xs.getD j 0 = rd xs (j : Int) := rfl
            by_cases hd : (n : Int) % rd xs (j : Int) = 0
            · have hdv := divs_of (n := (n : Int)) (xs := xs) j (by omega) (by rw [hpe]; exact hd)
              have hF3 := hF2.out
              rw [hdv, if_pos rfl] at hF3
              replace hF3 := hid hF3
              clear hF2 hdv hD hm hpe
              generalize rd xs (j : Int) = p at *
              have hdb : ((n : Int) % p == 0) = true := by simp [hd]
              go_wp2_with fail
              go_roundg g
              case measure => omega
              case rel => exact ⟨xs, n + 1, by first | rfl | simp, hR, hB, by omega, by omega, hxl, hP, hF3⟩
            · have hD2 : Hid (∀ i, i < j + 1 → (n : Int) % xs.getD i 0 ≠ 0) := hid (fun i hi => by
                by_cases e : i = j
                · rw [e, hpe]; exact hd
                · exact hD.out i (by omega))
              clear hD hm hpe
              generalize rd xs (j : Int) = p at *
              have hdb : ((n : Int) % p == 0) = false := by simp [hd]
              go_wp2_with fail
              go_roundg g2
              case measure => omega
              case rel => exact ⟨j + 1, by omega, by first | rfl | simp, hD2, rfl⟩
    · have hl64 : xs.length = 64 := by omega
      have hF2 : xs = ps := by
        have := hF.out
        cases gk with
        | zero => exact this
        | succ g => rw [pF, if_neg hlt] at this; exact this
      subst hF2
      clear hF
      go_wp2_with fail
      (try rw [Exit.noGoto_ret])
      go_ret
      exact ⟨_, rfl, hR.out, hB.out⟩
end Go.Proofs.Ytakbdknmfaoppaa.R
