/-
  The walk of sha.Hex.
-/
import Derived.Test.YtakbdknmfaoppaaA3
import Derived.Test.YtakbdknmfaoppaaSr
import Derived.Test.YtakbdknmfaoppaaSh
namespace Go.Proofs.Ytakbdknmfaoppaa.R
set_option linter.unusedVariables false
set_option linter.unusedSimpArgs false
open Go.RowKit Go.Proofs.YtakbdknmfaoppaaW.PrintWords Go.Proofs.YtakbdknmfaoppaaW.PrintLast Go.Proofs.YtakbdknmfaoppaaW.PrintMore
open Go.Lib (hid)
def DIG : ByteArray := ⟨#[48, 49, 50, 51, 52, 53, 54, 55, 56, 57, 97, 98, 99, 100, 101, 102]⟩
def hx (n : Nat) : UInt8 := ([48, 49, 50, 51, 52, 53, 54, 55, 56, 57, 97, 98, 99, 100, 101, 102] : List UInt8).getD n 0
def hexL (l : List UInt8) : List UInt8 := l.flatMap fun c => [hx (c.toNat / 16), hx (c.toNat % 16)]
def hexB (s : ByteArray) : ByteArray := ⟨(hexL s.data.toList).toArray⟩
theorem dig_all : ∀ j : Fin 16, ((⟨#[48, 49, 50, 51, 52, 53, 54, 55, 56, 57, 97, 98, 99, 100, 101, 102]⟩ : ByteArray)[j.val]'j.isLt).toNat = (hx j.val).toNat := by decide +kernel
theorem dig_get (j : Nat) (h : j < (⟨#[48, 49, 50, 51, 52, 53, 54, 55, 56, 57, 97, 98, 99, 100, 101, 102]⟩ : ByteArray).size) : ((⟨#[48, 49, 50, 51, 52, 53, 54, 55, 56, 57, 97, 98, 99, 100, 101, 102]⟩ : ByteArray)[j]'h).toNat = (hx j).toNat := dig_all ⟨j, h⟩
theorem hexL_snoc (s : ByteArray) (k : Nat) (h : k < s.size) : hexL (s.data.toList.take (k + 1)) = hexL (s.data.toList.take k) ++ [hx (s[k].toNat / 16), hx (s[k].toNat % 16)] := by
  rw [List.take_succ_eq_append_getElem (by simpa using h)]
  simp [hexL]
  exact ⟨rfl, rfl⟩
theorem hexL_len (l : List UInt8) : (hexL l).length = 2 * l.length := by
  induction l with
  | nil => rfl
  | cons a t ih => simp only [hexL, List.flatMap_cons, List.length_append] at *; rw [ih]; simp; omega
set_option maxHeartbeats 4000000 in
set_option maxRecDepth 1000000 in
theorem Hex.go (s : ByteArray) (w : World) (hs : s.size ≤ 70368744177663) :
    Calls Try.prog 14 #[.string s] w fun e w' => e = .returned (.string (hexB s)) ∧ Below w.heap.size w w' := by
  go_enter Try.func14, Try.ntmps14
  go_wp2_with fail
  go_loopw [4, 7] (fun v4 v7 wr => ∃ (k : Nat), v7 = .int .i64 (k : Int) ∧ k ≤ s.size ∧ Lib.IsBuilderF 50 5 w.heap.size w.heap.size (Lib.byteCells (hexL (s.data.toList.take k))) wr ∧ Below w.heap.size w wr) (fun v4 v7 _ => s.size - (intOf v7).toNat)
  case atStart => exact ⟨0, rfl, by omega, Lib.IsBuilderF.of (Lib.fresh_isBuilder 50 5 w), (Below.refl _ w).alloc (Nat.le_refl _) _⟩
  case round =>
    obtain ⟨k, rfl, hk, hI, hbw⟩ := hrel
    by_cases hlt : k < s.size
    · have hlt2 : (k : Int) < (s.size : Int) := by omega
      have e5 : (0 : Int) ≤ (k : Int) := by omega
      have hsn := hid (hexL_snoc s k hlt)
      have hc8 := (s[k]'hlt).toNat_lt
      have d1 := fun h => dig_get ((s[k]'hlt).toNat / 16) h
      have d2 := fun h => dig_get ((s[k]'hlt).toNat % 16) h
      have hl := hexL_len (s.data.toList.take k)
      have hl2 : (s.data.toList.take k).length ≤ k := List.length_take_le _ _
      have hlen : (Lib.byteCells (hexL (s.data.toList.take k))).length + 2 ≤ 140737488355328 := by rw [Lib.byteCells_length]; omega
      have hbs := hbw.size
      have W1 := hid (Try.Builder_WriteByte_k w.heap.size w.heap.size _ ((hx ((s[k]'hlt).toNat / 16)).toNat : Int) wr hI (by omega) hbw.size)
      clear hI
      replace hbw := hid hbw
      go_wp2_with fail
      refine W1.mono ?_
      rintro e w1 ⟨rfl, h1, b1, _⟩
      have W2 := hid (Try.Builder_WriteByte_k w.heap.size w.heap.size _ ((hx ((s[k]'hlt).toNat % 16)).toNat : Int) w1 (Or.inr h1) (by rw [List.length_append]; simp; omega) (Nat.le_trans hbs b1.size))
      clear h1
      replace b1 := hid b1
      go_wp2_with fail
      refine W2.mono ?_
      rintro e w2 ⟨rfl, h2, b2, _⟩
      replace b2 := hid b2
      have fin : Hid (Lib.IsBuilderF 50 5 w.heap.size w.heap.size (Lib.byteCells (hexL (s.data.toList.take (k + 1)))) w2) := hid (by
        rw [hsn.out, Lib.byteCells_append]
        simp only [List.append_assoc] at h2
        exact Or.inr h2)
      clear h2
      go_wp2_with fail
      go_roundw
      case rel => exact ⟨k + 1, by go_num, by omega, fin.out, hbw.out.trans (b1.out.trans b2.out)⟩
      case measure => simp [intOf]; omega
    · have hk2 : k = s.size := by omega
      subst hk2
      have ht : List.take s.size s.data.toList = s.data.toList := List.take_of_length_le (by simp)
      rw [ht] at hI
      have HS := hid (Try.Builder_String_any_k w.heap.size w.heap.size _ _ hI hbw.size)
      clear hI
      replace hbw := hid hbw
      go_wp2_with fail
      refine HS.mono ?_
      rintro e W1 ⟨rfl, _, b2, _⟩
      replace b2 := hid b2
      go_wp2_with fail
      go_ret
      exact ⟨rfl, hbw.out.trans b2.out⟩
def Hex.f (s : ByteArray) : Option ByteArray := if s.size ≤ 1000000 then some (hexB s) else none
theorem Hex.calls (s : ByteArray) (r : ByteArray) (w : World) (h : Hex.f s = some r) :
    Calls Try.prog 14 #[.string s] w fun e w' => e = .returned (.string r) ∧ Below w.heap.size w w' := by
  unfold Hex.f at h
  split at h
  case isFalse => cases h
  rename_i hs
  obtain rfl := Option.some.inj h
  exact Hex.go s w (by omega)
end Go.Proofs.Ytakbdknmfaoppaa.R
