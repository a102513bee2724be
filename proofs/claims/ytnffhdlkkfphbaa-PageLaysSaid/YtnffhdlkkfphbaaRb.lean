/-
  Pages on both disks.
-/
import Derived.Test.YtnffhdlkkfphbaaR9
import Derived.Test.YtnffhdlkkfphbaaPurePageSeals
namespace Go.Proofs.Ytnffhdlkkfphbaa.D
set_option linter.unusedVariables false
set_option linter.unusedSimpArgs false
open Go.RowKit Go.Proofs.YtnffhdlkkfphbaaW.PrintWords Go.Proofs.YtnffhdlkkfphbaaW.PrintLast Go.Proofs.YtnffhdlkkfphbaaW.PrintMore
open Go.Lib (hid)
def sealOk (kind : Int) (text : ByteArray) : Prop := 1 ≤ kind ∧ kind ≤ 15 ∧ text.size ≤ 240
instance (kind : Int) (text : ByteArray) : Decidable (sealOk kind text) := by unfold sealOk; infer_instance
def sealB (kind : Int) (text : ByteArray) : ByteArray := ⟨(G.sealL kind.toNat text.data.toList).toArray⟩
theorem seal_yes (kind : Int) (text : ByteArray) (h : sealOk kind text) : G.page_Seal.f kind text = some (sealB kind text, 0) := by
  unfold G.page_Seal.f
  rw [if_pos (show 1 ≤ kind ∧ kind ≤ 15 ∧ text.size ≤ 240 from h)]
  rfl
theorem seal_no (kind : Int) (text : ByteArray) (h : ¬ sealOk kind text) : G.page_Seal.f kind text = some (⟨#[]⟩, 1) := by
  unfold G.page_Seal.f
  rw [if_neg (show ¬ (1 ≤ kind ∧ kind ≤ 15 ∧ text.size ≤ 240) from h)]
theorem rseal_yes (kind : Int) (text : ByteArray) (hw : (Lit.int .i64 kind).wf = true) (hs : text.size ≤ 140737488351232) (h : sealOk kind text) : G.bailiwickref07_Seal.f 300 kind text = some (sealB kind text, true) := by
  rw [Pure.rseal_eq kind text hw hs 300 (by decide), if_pos (show 1 ≤ kind ∧ kind ≤ 15 ∧ text.size ≤ 240 from h)]
  rfl
theorem rseal_no (kind : Int) (text : ByteArray) (hw : (Lit.int .i64 kind).wf = true) (hs : text.size ≤ 140737488351232) (h : ¬ sealOk kind text) : G.bailiwickref07_Seal.f 300 kind text = some (⟨#[]⟩, false) := by
  rw [Pure.rseal_eq kind text hw hs 300 (by decide), if_neg (show ¬ (1 ≤ kind ∧ kind ≤ 15 ∧ text.size ≤ 240) from h)]
def openR (b : ByteArray) : Int × ByteArray × Int := if b.size = 256 then Pure.openT b else (0, ⟨#[]⟩, 2)
theorem open_p (b : ByteArray) : G.page_Open.f 300 b = some ((openR b).1, (openR b).2.1, (openR b).2.2) := by
  show G.page_Open.f 300 b = some (openR b)
  unfold openR
  by_cases h : b.size = 256
  · rw [if_pos h]; exact Pure.popen_eq b h 300 (by decide)
  · rw [if_neg h]; exact Pure.popen_other b h 300
theorem open_r (b : ByteArray) : G.bailiwickref07_Open.f 300 b = some ((openR b).1, (openR b).2.1, (openR b).2.2) := by
  show G.bailiwickref07_Open.f 300 b = some (openR b)
  unfold openR
  by_cases h : b.size = 256
  · rw [if_pos h]; exact Pure.ropen_eq b h 300 (by decide)
  · rw [if_neg h]; exact Pure.ropen_other b h 300
theorem below_fr {K : Nat → Prop} {w w' : World} (hb : Below w.heap.size w w') : Fr (fun i => ¬ K i) w w' := ⟨hb.os, hb.tape, hb.output, hb.size, fun q hq _ => hb.block q hq⟩
set_option maxRecDepth 100000 in
theorem PWrite.calls (K : Nat → Prop) (d x : Nat) (st rst : St) (w : World) (h : Two K w d x st rst) (hK : ∀ i, K i → i < w.heap.size) (n kind : Int) (text : ByteArray) (hll : st.loose.length ≤ 10000) :
    Calls Try.prog 36 #[.pointer (some ⟨d, 0, none⟩), .int .i64 n, .int .i64 kind, .string text] w fun e w' => e = .returned (.int .i64 (if sealOk kind text then (writes st n (sealB kind text)).1 else 1)) ∧ Two K w' d x (if sealOk kind text then (writes st n (sealB kind text)).2 else st) rst ∧ Fr (fun i => ¬ K i) w w' := by
  by_cases hc : sealOk kind text
  · rw [if_pos hc, if_pos hc]
    have hS := hid (fun W => G.page_Seal.calls _ _ _ _ W (seal_yes kind text hc))
    have hW := hid (fun W (hb : Below w.heap.size w W) => Two.Write K d x st rst W (h.below hb) (fun i hi => Nat.lt_of_lt_of_le (hK i hi) hb.size) n (sealB kind text) hll)
    clear h hK hc hll
    generalize sealB kind text = S at *
    go_enter Try.func36, Try.ntmps36
    go_wp2_with (first | ((with_reducible refine Calls.mono (hS.out _) ?_); rintro e w1 ⟨rfl, hb1⟩; replace hb1 := hid hb1) | ((with_reducible refine Calls.mono (hW.out _ hb1.out) ?_); rintro e w2 ⟨rfl, hT, hf⟩; replace hT := hid hT; replace hf := hid ((below_fr hb1.out).trans hf)))
    go_ret
    exact ⟨rfl, hT.out, hf.out⟩
  · rw [if_neg hc, if_neg hc]
    have hS := hid (fun W => G.page_Seal.calls _ _ _ _ W (seal_no kind text hc))
    replace h := hid h
    clear hK hc hll
    go_enter Try.func36, Try.ntmps36
    go_wp2_with (first | ((with_reducible refine Calls.mono (hS.out _) ?_); rintro e w1 ⟨rfl, hb1⟩; replace hb1 := hid hb1))
    go_ret
    exact ⟨rfl, h.out.below hb1.out, below_fr hb1.out⟩
set_option maxRecDepth 100000 in
theorem PRWrite.calls (K : Nat → Prop) (d x : Nat) (st rst : St) (w : World) (h : Two K w d x st rst) (hK : ∀ i, K i → i < w.heap.size) (n kind : Int) (text : ByteArray) (hw : (Lit.int .i64 kind).wf = true) (hs : text.size ≤ 140737488351232) (hll : rst.loose.length ≤ 10000) :
    Calls Try.prog 37 #[.pointer (some ⟨x, 0, none⟩), .int .i64 n, .int .i64 kind, .string text] w fun e w' => e = .returned (.int .i64 (if sealOk kind text then (rwrites rst n (sealB kind text)).1 else 1)) ∧ Two K w' d x st (if sealOk kind text then (rwrites rst n (sealB kind text)).2 else rst) ∧ Fr (fun i => ¬ K i) w w' := by
  by_cases hc : sealOk kind text
  · rw [if_pos hc, if_pos hc]
    have hS := hid (fun W => G.bailiwickref07_Seal.calls 300 _ _ _ _ W (rseal_yes kind text hw hs hc))
    have hW := hid (fun W (hb : Below w.heap.size w W) => Two.RWrite K d x st rst W (h.below hb) (fun i hi => Nat.lt_of_lt_of_le (hK i hi) hb.size) n (sealB kind text) hll)
    clear h hK hc hll
    generalize sealB kind text = S at *
    go_enter Try.func37, Try.ntmps37
    go_wp2_with (first | ((with_reducible refine Calls.mono (hS.out _) ?_); rintro e w1 ⟨rfl, hb1⟩; replace hb1 := hid hb1) | ((with_reducible refine Calls.mono (hW.out _ hb1.out) ?_); rintro e w2 ⟨rfl, hT, hf⟩; replace hT := hid hT; replace hf := hid ((below_fr hb1.out).trans hf)))
    go_ret
    exact ⟨rfl, hT.out, hf.out⟩
  · rw [if_neg hc, if_neg hc]
    have hS := hid (fun W => G.bailiwickref07_Seal.calls 300 _ _ _ _ W (rseal_no kind text hw hs hc))
    replace h := hid h
    clear hK hc hll
    go_enter Try.func37, Try.ntmps37
    go_wp2_with (first | ((with_reducible refine Calls.mono (hS.out _) ?_); rintro e w1 ⟨rfl, hb1⟩; replace hb1 := hid hb1))
    go_ret
    exact ⟨rfl, h.out.below hb1.out, below_fr hb1.out⟩
/-- What a page's Read answers. -/
def preads (st : St) (n : Int) : Int × ByteArray × Int := if (reads st n).2 = 0 then openR (reads st n).1 else (0, ⟨#[]⟩, (reads st n).2)
set_option maxRecDepth 100000 in
theorem PRead.calls (K : Nat → Prop) (d x : Nat) (st rst : St) (w : World) (h : Two K w d x st rst) (n : Int) :
    Calls Try.prog 38 #[.pointer (some ⟨d, 0, none⟩), .int .i64 n] w fun e w' => e = .returned (.tuple #[.int .i64 (preads st n).1, .string (preads st n).2.1, .int .i64 (preads st n).2.2]) ∧ Below w.heap.size w w' := by
  have hR := hid (Two.Read K d x st rst w h n)
  have hO := hid (fun W => G.page_Open.calls 300 _ _ _ _ W (open_p (reads st n).1))
  unfold preads
  clear h
  generalize (reads st n).1 = b at *
  generalize (reads st n).2 = e0 at *
  by_cases he : e0 = 0
  · subst he
    rw [if_pos rfl]
    generalize (openR b).1 = r1 at *
    generalize (openR b).2.1 = r2 at *
    generalize (openR b).2.2 = r3 at *
    go_enter Try.func38, Try.ntmps38
    go_wp2_with (first | ((with_reducible refine Calls.mono hR.out ?_); rintro e w1 ⟨rfl, rfl⟩) | ((with_reducible refine Calls.mono (hO.out _) ?_); rintro e w2 ⟨rfl, hb⟩; replace hb := hid hb))
    go_ret3
    exact ⟨rfl, hb.out⟩
  · rw [if_neg he]
    have he2 : (e0 != 0) = true := by simp [he]
    clear he hO
    go_enter Try.func38, Try.ntmps38
    go_wp2_with (first | ((with_reducible refine Calls.mono hR.out ?_); rintro e w1 ⟨rfl, rfl⟩))
    go_ret3
    exact ⟨rfl, Below.refl _ _⟩
set_option maxRecDepth 100000 in
theorem PRRead.calls (K : Nat → Prop) (d x : Nat) (st rst : St) (w : World) (h : Two K w d x st rst) (n : Int) :
    Calls Try.prog 39 #[.pointer (some ⟨x, 0, none⟩), .int .i64 n] w fun e w' => e = .returned (.tuple #[.int .i64 (preads rst n).1, .string (preads rst n).2.1, .int .i64 (preads rst n).2.2]) ∧ Below w.heap.size w w' := by
  have hR := hid (Two.RRead K d x st rst w h n)
  have hO := hid (fun W => G.bailiwickref07_Open.calls 300 _ _ _ _ W (open_r (reads rst n).1))
  unfold preads
  clear h
  generalize (reads rst n).1 = b at *
  generalize (reads rst n).2 = e0 at *
  by_cases he : e0 = 0
  · subst he
    rw [if_pos rfl]
    generalize (openR b).1 = r1 at *
    generalize (openR b).2.1 = r2 at *
    generalize (openR b).2.2 = r3 at *
    go_enter Try.func39, Try.ntmps39
    go_wp2_with (first | ((with_reducible refine Calls.mono hR.out ?_); rintro e w1 ⟨rfl, rfl⟩) | ((with_reducible refine Calls.mono (hO.out _) ?_); rintro e w2 ⟨rfl, hb⟩; replace hb := hid hb))
    go_ret3
    exact ⟨rfl, hb.out⟩
  · rw [if_neg he]
    have he2 : (e0 != 0) = true := by simp [he]
    clear he hO
    go_enter Try.func39, Try.ntmps39
    go_wp2_with (first | ((with_reducible refine Calls.mono hR.out ?_); rintro e w1 ⟨rfl, rfl⟩))
    go_ret3
    exact ⟨rfl, Below.refl _ _⟩
end Go.Proofs.Ytnffhdlkkfphbaa.D
