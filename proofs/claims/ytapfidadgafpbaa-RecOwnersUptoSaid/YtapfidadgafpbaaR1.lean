/-
  The walks of label.Right, whole, and of label.Fold.
-/
import Derived.Test.YtapfidadgafpbaaR0
import Derived.Test.YtapfidadgafpbaaSh
import Derived.Test.YtapfidadgafpbaaSr
import Derived.BigCall
namespace Go.Proofs.Ytapfidadgafpbaa.R
set_option linter.unusedVariables false
set_option linter.unusedSimpArgs false
open Go.RowKit Go.Proofs.YtapfidadgafpbaaW.PrintWords Go.Proofs.YtapfidadgafpbaaW.PrintLast Go.Proofs.YtapfidadgafpbaaW.PrintMore
open Go.Lib (hid)

theorem isEmpty_of (s : ByteArray) : s.toList.isEmpty = decide (s.size = 0) := by
  rw [ByteArray.toList_eq]
  have : s.size = s.data.toList.length := by simp
  rw [this]
  cases s.data.toList <;> simp
theorem Right.empty (s : ByteArray) (w : World) (h0 : s.toList.isEmpty = true) :
    Calls Try.prog 29 #[.string s] w fun e w' => e = .returned (.bool false) ∧ Below w.heap.size w w' := by
  go_enter Try.func29, Try.ntmps29
  go_wp2_with fail
  go_ret
  exact ⟨rfl, Below.refl _ _⟩
theorem Right.long (s : ByteArray) (w : World) (h0 : s.toList.isEmpty = false) (h1 : 32 < s.size) :
    Calls Try.prog 29 #[.string s] w fun e w' => e = .returned (.bool false) ∧ Below w.heap.size w w' := by
  have q1 : (32 < (s.size : Int)) := by omega
  go_enter Try.func29, Try.ntmps29
  go_wp2_with fail
  go_ret
  exact ⟨rfl, Below.refl _ _⟩
theorem Right.many (s : ByteArray) (w : World) (h0 : s.toList.isEmpty = false) (h1 : s.size ≤ 32) (h2 : 16 < (rns s).length) :
    Calls Try.prog 29 #[.string s] w fun e w' => e = .returned (.bool false) ∧ Below w.heap.size w w' := by
  have HR := hid (fun W => Runes.calls s ((rns s).length : Int) W (by rw [Runes.f, if_pos (by omega)]))
  have q1 : ¬ (32 < (s.size : Int)) := by omega
  have q3 : (16 < ((rns s).length : Int)) := by omega
  go_enter Try.func29, Try.ntmps29
  go_wp2_with fail
  refine (HR _).mono ?_
  rintro e w1 ⟨rfl, b1⟩
  go_wp2_with fail
  go_ret
  exact ⟨rfl, b1⟩
def Right.f (s : ByteArray) : Option Bool := if s.size ≤ 140737488355328 then some (rightB s) else none
theorem Right.calls (s : ByteArray) (r : Bool) (w : World) (h : Right.f s = some r) :
    Calls Try.prog 29 #[.string s] w fun e w' => e = .returned (.bool r) ∧ Below w.heap.size w w' := by
  unfold Right.f at h
  split at h
  case isFalse => cases h
  obtain rfl := Option.some.inj h
  clear h
  by_cases h0 : s.size = 0
  · rw [show rightB s = false by simp [rightB, h0]]
    exact Right.empty s w (by rw [isEmpty_of]; simpa using h0)
  · have e0 : s.toList.isEmpty = false := by rw [isEmpty_of]; simpa using h0
    by_cases h1 : s.size ≤ 32
    · by_cases h2 : (rns s).length ≤ 16
      · rw [show rightB s = okF s s.size 0 46 by simp [rightB, h0, h1, h2]]
        exact Right.yes s w e0 h1 h2
      · rw [show rightB s = false by simp [rightB, h2]]
        exact Right.many s w e0 h1 (by omega)
    · rw [show rightB s = false by simp [rightB, h1]]
      exact Right.long s w e0 (by omega)

/-! ### small letters -/
def lowR (r : Int) : Int := if 65 ≤ r ∧ r ≤ 90 then r + 32 else r
def foldF (s : ByteArray) : Nat → Nat → List UInt8
  | 0, _ => []
  | k + 1, pos => if pos < s.size then Lib.encodeRune (lowR (Utf8.decode s pos).1) ++ foldF s k (pos + (Utf8.decode s pos).2) else []
theorem foldF_end (s : ByteArray) (k pos : Nat) (h : ¬ pos < s.size) : foldF s k pos = [] := by
  cases k with
  | zero => rfl
  | succ k => simp [foldF, h]
theorem foldF_step (s : ByteArray) (k pos : Nat) (h : pos < s.size) : foldF s (k + 1) pos = Lib.encodeRune (lowR (Utf8.decode s pos).1) ++ foldF s k (pos + (Utf8.decode s pos).2) := by
  rw [foldF, if_pos h]
theorem Fold.no (s : ByteArray) (w : World) (h : Right.f s = some false) :
    Calls Try.prog 10 #[.string s] w fun e w' => e = .returned (.tuple #[.string ⟨#[]⟩, .bool false]) ∧ Below w.heap.size w w' := by
  have HR := hid (fun W => Right.calls s false W h)
  go_enter Try.func10, Try.ntmps10
  go_wp2_with fail
  refine (HR _).mono ?_
  rintro e w1 ⟨rfl, b1⟩
  go_wp2_with fail
  go_ret2
  exact ⟨rfl, b1⟩
set_option maxHeartbeats 4000000 in
set_option maxRecDepth 1000000 in
theorem Fold.yes (s : ByteArray) (w : World) (h : Right.f s = some true) (hs : s.size ≤ 32) :
    Calls Try.prog 10 #[.string s] w fun e w' => e = .returned (.tuple #[.string ⟨(foldF s s.size 0).toArray⟩, .bool true]) ∧ Below w.heap.size w w' := by
  have HR := hid (fun W => Right.calls s true W h)
  clear h
  go_enter Try.func10, Try.ntmps10
  go_wp2_with fail
  refine (HR _).mono ?_
  rintro e w1 ⟨rfl, b1⟩
  replace b1 := hid b1
  go_wp2_with fail
  go_loopw [] (fun wr => ∃ (pos fuel : Nat) (acc : List UInt8), Lib.IsBuilderF 65 5 w1.heap.size w1.heap.size (Lib.byteCells acc) wr ∧ wr.heap[w1.heap.size + 1]? = some (.stringIter s pos) ∧ Below w1.heap.size w1 wr ∧ Hid (acc ++ foldF s fuel pos = foldF s s.size 0 ∧ s.size ≤ pos + fuel) ∧ acc.length ≤ 4 * pos ∧ fuel ≤ s.size) (fun wr => s.size - wr.iterPos (w1.heap.size + 1))
  case atStart =>
    refine ⟨0, s.size, [], (Lib.IsBuilderF.of (Lib.fresh_isBuilder 65 5 w1)).alloc _, ?_, ((Below.refl _ w1).alloc (Nat.le_refl _) _).alloc (by simp) _, ⟨rfl, by omega⟩, by simp, by omega⟩
    have := World.iter_heap (w1.alloc (.cells #[.pointer none, .slice none 0 0] 65)) s 0
    simpa using this
  case round =>
    obtain ⟨pos, fuel, acc, hI, hit, hbw, hQ, hal, hfs⟩ := hrel
    have hsz : w1.heap.size + 1 < wr.heap.size := (Array.getElem?_eq_some_iff.1 hit).1
    have hpos0 := iterPos_of hit
    by_cases hp : pos < s.size
    · have hnx : ∀ ty, (Instr.next (.pointer (some ⟨w1.heap.size + 1, 0, none⟩)) true ty).run Try.prog wr = _ := fun ty => Lib.run_next_any_at wr (w1.heap.size + 1) s pos ty hit hp
      have hwd := width_pos s pos hp
      have hd1 := decode_le s pos
      have hI2 := hI.iterAt hit (pos + (Utf8.decode s pos).2)
      have hit2 := Lib.iterAt_heap wr (w1.heap.size + 1) s pos (pos + (Utf8.decode s pos).2) hit
      have hbw2 := Lib.below_iterAt hbw (k := w1.heap.size + 1) (by omega) s (pos + (Utf8.decode s pos).2)
      have hsz2 : w1.heap.size ≤ (wr.iterAt (w1.heap.size + 1) s (pos + (Utf8.decode s pos).2)).heap.size := by rw [Lib.iterAt_size]; omega
      obtain ⟨f, rfl⟩ : ∃ f, fuel = f + 1 := ⟨fuel - 1, by have := hQ.out.2; omega⟩
      have hQ1 := hQ.out.1
      have hQ2 : s.size ≤ pos + (Utf8.decode s pos).2 + f := by have := hQ.out.2; omega
      rw [foldF_step s f pos hp, ← List.append_assoc] at hQ1
      clear hQ hit hbw hI
      generalize (Utf8.decode s pos).1 = r at *
      generalize (Utf8.decode s pos).2 = n at *
      have hl4 := Lib.runeCells_le (lowR (r : Int))
      rw [Lib.runeCells_length] at hl4
      have hlen : (Lib.byteCells acc).length + 4 ≤ 140737488355328 := by rw [Lib.byteCells_length]; omega
      replace hI2 := hid hI2
      replace hit2 := hid hit2
      replace hbw2 := hid hbw2
      replace hQ1 := hid hQ1
      have fin : ∀ W1 : World, Lib.BuilderAtF 65 5 w1.heap.size w1.heap.size (.pointer (some ⟨w1.heap.size, 0, none⟩)) (Lib.byteCells acc ++ Lib.runeCells (lowR (r : Int))) W1 → Below w1.heap.size (wr.iterAt (w1.heap.size + 1) s (pos + n)) W1 → Lib.OthersKept 5 (some w1.heap.size) (wr.iterAt (w1.heap.size + 1) s (pos + n)) W1 →
          (∃ (pos fuel : Nat) (acc : List UInt8), Lib.IsBuilderF 65 5 w1.heap.size w1.heap.size (Lib.byteCells acc) W1 ∧ W1.heap[w1.heap.size + 1]? = some (.stringIter s pos) ∧ Below w1.heap.size w1 W1 ∧ Hid (acc ++ foldF s fuel pos = foldF s s.size 0 ∧ s.size ≤ pos + fuel) ∧ acc.length ≤ 4 * pos ∧ fuel ≤ s.size) ∧ W1.iterPos (w1.heap.size + 1) = pos + n := by
        intro W1 h1 b1 k1
        have ki := k1.iter hit2.out (by omega)
        refine ⟨⟨pos + n, f, acc ++ Lib.encodeRune (lowR (r : Int)), ?_, ki, hbw2.out.trans b1, ⟨hQ1.out, hQ2⟩, by simp; omega, by omega⟩, iterPos_of ki⟩
        rw [Lib.byteCells_append, Lib.byteCells_encodeRune]
        exact Or.inr h1
      replace fin := hid fin
      clear hQ1 hQ2
      by_cases hup : 65 ≤ r ∧ r ≤ 90
      · have e1 : lowR (r : Int) = (r : Int) + 32 := by rw [lowR, if_pos (by omega)]
        rw [e1] at fin
        have e2 : (65 : Int) ≤ r := by omega
        have e3 : (r : Int) ≤ 90 := by omega
        have HW := hid (Try.Builder_WriteRune_k w1.heap.size w1.heap.size _ ((r : Int) + 32) (by omega) (by omega) _ hI2.out hlen hsz2)
        clear e1 hl4
        go_wp2_with fail
        refine HW.mono ?_
        rintro e W1 ⟨rfl, h1, b2, k1⟩
        obtain ⟨fr, fm⟩ := fin W1 h1 b2 k1
        replace fr := hid fr
        go_wp2_with fail
        go_roundw
        case rel => exact fr
        case measure => rw [fm, hpos0]; omega
      · have e1 : lowR (r : Int) = (r : Int) := by rw [lowR, if_neg (by omega)]
        rw [e1] at fin
        by_cases hlo : r < 65
        · have e2 : ¬ (65 : Int) ≤ r := by omega
          have HW := hid (Try.Builder_WriteRune_k w1.heap.size w1.heap.size _ (r : Int) (by omega) (by omega) _ hI2.out hlen hsz2)
          clear e1 hl4 hup
          go_wp2_with fail
          refine HW.mono ?_
          rintro e W1 ⟨rfl, h1, b2, k1⟩
          obtain ⟨fr, fm⟩ := fin W1 h1 b2 k1
          replace fr := hid fr
          go_wp2_with fail
          go_roundw
          case rel => exact fr
          case measure => rw [fm, hpos0]; omega
        · have e2 : (65 : Int) ≤ r := by omega
          have e3 : ¬ (r : Int) ≤ 90 := by omega
          have HW := hid (Try.Builder_WriteRune_k w1.heap.size w1.heap.size _ (r : Int) (by omega) (by omega) _ hI2.out hlen hsz2)
          clear e1 hl4 hup
          go_wp2_with fail
          refine HW.mono ?_
          rintro e W1 ⟨rfl, h1, b2, k1⟩
          obtain ⟨fr, fm⟩ := fin W1 h1 b2 k1
          replace fr := hid fr
          go_wp2_with fail
          go_roundw
          case rel => exact fr
          case measure => rw [fm, hpos0]; omega
    · have hnx : ∀ ty, (Instr.next (.pointer (some ⟨w1.heap.size + 1, 0, none⟩)) true ty).run Try.prog wr = _ := fun ty => Lib.run_next_end_at wr (w1.heap.size + 1) s pos ty hit hp
      have hQ1 := hQ.out.1
      rw [foldF_end s fuel pos hp, List.append_nil] at hQ1
      have HS := hid (Try.Builder_String_any_k w1.heap.size w1.heap.size acc _ hI (by omega))
      clear hQ
      go_wp2_with fail
      refine HS.mono ?_
      rintro e W1 ⟨rfl, _, b2, _⟩
      go_wp2_with fail
      go_ret2
      subst hQ1
      exact ⟨rfl, b1.out.trans ((hbw.trans b2).mono b1.out.size)⟩
def foldB (s : ByteArray) : ByteArray := if rightB s = true then ⟨(foldF s s.size 0).toArray⟩ else ⟨#[]⟩
def Fold.f (s : ByteArray) : Option (ByteArray × Bool) := if s.size ≤ 140737488355328 then some (foldB s, rightB s) else none
theorem Fold.calls (s : ByteArray) (r1 : ByteArray) (r2 : Bool) (w : World) (h : Fold.f s = some (r1, r2)) :
    Calls Try.prog 10 #[.string s] w fun e w' => e = .returned (.tuple #[.string r1, .bool r2]) ∧ Below w.heap.size w w' := by
  unfold Fold.f at h
  split at h
  case isFalse => cases h
  rename_i hs
  have h := Option.some.inj h
  cases hb : rightB s
  · have e : foldB s = ⟨#[]⟩ := by rw [foldB, hb]; rfl
    rw [e, hb] at h
    cases h
    exact Fold.no s w (by rw [Right.f, if_pos hs, hb])
  · have e : foldB s = ⟨(foldF s s.size 0).toArray⟩ := by rw [foldB, hb]; rfl
    rw [e, hb] at h
    cases h
    refine Fold.yes s w (by rw [Right.f, if_pos hs, hb]) ?_
    unfold rightB at hb
    have := (Bool.and_eq_true_iff.1 hb).1
    exact (of_decide_eq_true this).2.1
end Go.Proofs.Ytapfidadgafpbaa.R
