/- What is sealed is opened as it was; what is opened is sealed as it stood; what may not be is refused. No condition. -/
import Derived.Test.YtnffhdlkkfphbaaB3
import Derived.OpenShut
namespace Go.Proofs.Ytnffhdlkkfphbaa.Pure
set_option linter.unusedVariables false
set_option linter.unusedSimpArgs false
open Go.RowKit Go.Proofs.Ytnffhdlkkfphbaa.G Go.Proofs.YtnffhdlkkfphbaaW.PrintWords Go.Proofs.YtnffhdlkkfphbaaW.PrintLast
open Go.Lib (hid)

theorem next {w w1 w2 : World} (h : Below w.heap.size w w1) (k : Below w1.heap.size w1 w2) : Below w.heap.size w w2 := below_then h h.size k
set_option maxRecDepth 100000 in
set_option maxHeartbeats 1000000 in
theorem back_yes (a0 : Nat) (a1 a2 : ByteArray) (w : World) (h1 : 1 ≤ a0) (h2 : a0 ≤ 15) (h3 : a1.size ≤ 240) (y2 : a2.size ≤ 140737488351232) :
    Calls Try.prog 4 #[.int .i64 a0, .string a1, .string a2] w fun e w' => e = .returned (.bool true) ∧ Below w.heap.size w w' := by
  have hl := sealL_length a0 a1.data.toList h3
  have hsz : (ByteArray.mk (sealL a0 a1.data.toList).toArray).size = 256 := by rw [size_mk, hl]
  have hO := (popen_eq _ hsz 10 (by decide)).trans (congrArg some (openT_seal a0 a1 h1 h2 h3))
  obtain ⟨n, t, f, hO2, hC⟩ := open_seal a2 y2 10 (by decide)
  have S1 := hid (fun W => page_Seal.yes a0 a1 W h1 h2 h3)
  have hsz' : ((ByteArray.mk (sealL a0 a1.data.toList).toArray).size : Int) = 256 := by omega
  have O1 := hid (fun W => page_Open.calls 10 _ _ _ _ W hO)
  have O2 := hid (fun W => page_Open.calls 10 _ _ _ _ W hO2)
  clear hl hO hO2
  generalize (ByteArray.mk (sealL a0 a1.data.toList).toArray) = s at *
  clear hsz
  rcases hC with ⟨rfl, hC⟩ | ⟨hf, hC⟩
  · have S2 := hid (fun W => page_Seal.calls _ _ _ _ W hC)
    clear hC
    go_enter Try.func4, Try.ntmps4
    go_wp2_with fail
    refine (bailiwicklaw07_examples.calls 10 true w ex_eq).mono ?_
    rintro e w1 ⟨rfl, hb1⟩
    go_wp2_with fail
    refine (S1 _).mono ?_
    rintro e w2 ⟨rfl, hb2⟩
    go_wp2_with fail
    refine (O1 _).mono ?_
    rintro e w3 ⟨rfl, hb3⟩
    go_wp2_with fail
    refine (O2 _).mono ?_
    rintro e w4 ⟨rfl, hb4⟩
    go_wp2_with fail
    refine (S2 _).mono ?_
    rintro e w5 ⟨rfl, hb5⟩
    go_wp2_with fail
    go_ret
    exact ⟨rfl, next (next (next (next hb1 hb2) hb3) hb4) hb5⟩
  · have S2 := hid (fun W => page_Seal.calls _ _ _ _ W hC)
    clear hC
    have hf2 : (f != 0) = true := by rw [bne, hf]; rfl
    go_enter Try.func4, Try.ntmps4
    go_wp2_with fail
    refine (bailiwicklaw07_examples.calls 10 true w ex_eq).mono ?_
    rintro e w1 ⟨rfl, hb1⟩
    go_wp2_with fail
    refine (S1 _).mono ?_
    rintro e w2 ⟨rfl, hb2⟩
    go_wp2_with fail
    refine (O1 _).mono ?_
    rintro e w3 ⟨rfl, hb3⟩
    go_wp2_with fail
    refine (O2 _).mono ?_
    rintro e w4 ⟨rfl, hb4⟩
    go_wp2_with fail
    refine (S2 _).mono ?_
    rintro e w5 ⟨rfl, hb5⟩
    go_wp2_with fail
    go_ret
    exact ⟨rfl, next (next (next (next hb1 hb2) hb3) hb4) hb5⟩
set_option maxRecDepth 100000 in
set_option maxHeartbeats 1000000 in
theorem back_no (a0 : Int) (a1 a2 : ByteArray) (w : World) (hn : ¬ (1 ≤ a0 ∧ a0 ≤ 15 ∧ a1.size ≤ 240)) (y2 : a2.size ≤ 140737488351232) :
    Calls Try.prog 4 #[.int .i64 a0, .string a1, .string a2] w fun e w' => e = .returned (.bool true) ∧ Below w.heap.size w w' := by
  obtain ⟨n, t, f, hO2, hC⟩ := open_seal a2 y2 10 (by decide)
  have S1 := hid (fun W => page_Seal.no a0 a1 W hn)
  have O2 := hid (fun W => page_Open.calls 10 _ _ _ _ W hO2)
  clear hO2
  have hcase : (1 ≤ a0 ∧ a0 ≤ 15 ∧ ¬ a1.size ≤ 240) ∨ (1 ≤ a0 ∧ ¬ a0 ≤ 15) ∨ ¬ 1 ≤ a0 := by
    by_cases g1 : 1 ≤ a0
    · by_cases g2 : a0 ≤ 15
      · exact .inl ⟨g1, g2, fun g3 => hn ⟨g1, g2, g3⟩⟩
      · exact .inr (.inl ⟨g1, g2⟩)
    · exact .inr (.inr g1)
  clear hn
  rcases hC with ⟨rfl, hC⟩ | ⟨hf, hC⟩
  · have S2 := hid (fun W => page_Seal.calls _ _ _ _ W hC)
    clear hC
    rcases hcase with ⟨g1, g2, g3⟩ | ⟨g1, g2⟩ | g1
    · have hd : decide ((a1.size : Int) ≤ 240) = false := decide_eq_false (by omega)
      go_enter Try.func4, Try.ntmps4
      go_wp2_with fail
      refine (bailiwicklaw07_examples.calls 10 true w ex_eq).mono ?_
      rintro e w1 ⟨rfl, hb1⟩
      go_wp2_with fail
      refine (S1 _).mono ?_
      rintro e w2 ⟨rfl, hb2⟩
      go_wp2_with fail
      refine (O2 _).mono ?_
      rintro e w4 ⟨rfl, hb4⟩
      go_wp2_with fail
      refine (S2 _).mono ?_
      rintro e w5 ⟨rfl, hb5⟩
      go_wp2_with fail
      go_ret
      exact ⟨rfl, next (next (next hb1 hb2) hb4) hb5⟩
    · go_enter Try.func4, Try.ntmps4
      go_wp2_with fail
      refine (bailiwicklaw07_examples.calls 10 true w ex_eq).mono ?_
      rintro e w1 ⟨rfl, hb1⟩
      go_wp2_with fail
      refine (S1 _).mono ?_
      rintro e w2 ⟨rfl, hb2⟩
      go_wp2_with fail
      refine (O2 _).mono ?_
      rintro e w4 ⟨rfl, hb4⟩
      go_wp2_with fail
      refine (S2 _).mono ?_
      rintro e w5 ⟨rfl, hb5⟩
      go_wp2_with fail
      go_ret
      exact ⟨rfl, next (next (next hb1 hb2) hb4) hb5⟩
    · go_enter Try.func4, Try.ntmps4
      go_wp2_with fail
      refine (bailiwicklaw07_examples.calls 10 true w ex_eq).mono ?_
      rintro e w1 ⟨rfl, hb1⟩
      go_wp2_with fail
      refine (S1 _).mono ?_
      rintro e w2 ⟨rfl, hb2⟩
      go_wp2_with fail
      refine (O2 _).mono ?_
      rintro e w4 ⟨rfl, hb4⟩
      go_wp2_with fail
      refine (S2 _).mono ?_
      rintro e w5 ⟨rfl, hb5⟩
      go_wp2_with fail
      go_ret
      exact ⟨rfl, next (next (next hb1 hb2) hb4) hb5⟩
  · have S2 := hid (fun W => page_Seal.calls _ _ _ _ W hC)
    clear hC
    have hf2 : (f != 0) = true := by rw [bne, hf]; rfl
    rcases hcase with ⟨g1, g2, g3⟩ | ⟨g1, g2⟩ | g1
    · have hd : decide ((a1.size : Int) ≤ 240) = false := decide_eq_false (by omega)
      go_enter Try.func4, Try.ntmps4
      go_wp2_with fail
      refine (bailiwicklaw07_examples.calls 10 true w ex_eq).mono ?_
      rintro e w1 ⟨rfl, hb1⟩
      go_wp2_with fail
      refine (S1 _).mono ?_
      rintro e w2 ⟨rfl, hb2⟩
      go_wp2_with fail
      refine (O2 _).mono ?_
      rintro e w4 ⟨rfl, hb4⟩
      go_wp2_with fail
      refine (S2 _).mono ?_
      rintro e w5 ⟨rfl, hb5⟩
      go_wp2_with fail
      go_ret
      exact ⟨rfl, next (next (next hb1 hb2) hb4) hb5⟩
    · go_enter Try.func4, Try.ntmps4
      go_wp2_with fail
      refine (bailiwicklaw07_examples.calls 10 true w ex_eq).mono ?_
      rintro e w1 ⟨rfl, hb1⟩
      go_wp2_with fail
      refine (S1 _).mono ?_
      rintro e w2 ⟨rfl, hb2⟩
      go_wp2_with fail
      refine (O2 _).mono ?_
      rintro e w4 ⟨rfl, hb4⟩
      go_wp2_with fail
      refine (S2 _).mono ?_
      rintro e w5 ⟨rfl, hb5⟩
      go_wp2_with fail
      go_ret
      exact ⟨rfl, next (next (next hb1 hb2) hb4) hb5⟩
    · go_enter Try.func4, Try.ntmps4
      go_wp2_with fail
      refine (bailiwicklaw07_examples.calls 10 true w ex_eq).mono ?_
      rintro e w1 ⟨rfl, hb1⟩
      go_wp2_with fail
      refine (S1 _).mono ?_
      rintro e w2 ⟨rfl, hb2⟩
      go_wp2_with fail
      refine (O2 _).mono ?_
      rintro e w4 ⟨rfl, hb4⟩
      go_wp2_with fail
      refine (S2 _).mono ?_
      rintro e w5 ⟨rfl, hb5⟩
      go_wp2_with fail
      go_ret
      exact ⟨rfl, next (next (next hb1 hb2) hb4) hb5⟩
theorem PageBack_walk (a0 : Int) (a1 a2 : ByteArray) (w : World) (w0 : (Lit.int .i64 a0).wf = true) (w1 : a1.size ≤ 140737488351232) (w2 : a2.size ≤ 140737488351232) :
    Calls Try.prog 4 #[.int .i64 a0, .string a1, .string a2] w fun e w' => e = .returned (.bool true) ∧ Below w.heap.size w w' := by
  by_cases h : 1 ≤ a0 ∧ a0 ≤ 15 ∧ a1.size ≤ 240
  · obtain ⟨n, rfl⟩ := Int.eq_ofNat_of_zero_le (show 0 ≤ a0 by omega)
    exact back_yes n a1 a2 w (by omega) (by omega) h.2.2 w2
  · exact back_no a0 a1 a2 w h w2
end Go.Proofs.Ytnffhdlkkfphbaa.Pure
