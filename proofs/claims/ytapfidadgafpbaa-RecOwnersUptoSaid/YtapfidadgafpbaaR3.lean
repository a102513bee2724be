/-
  The walk of the reference's Fold: a row of bytes, each made small in place.
-/
import Derived.Test.YtapfidadgafpbaaOx1
import Derived.Test.YtapfidadgafpbaaM0
namespace Go.Proofs.Ytapfidadgafpbaa.R
set_option linter.unusedVariables false
set_option linter.unusedSimpArgs false
open Go.RowKit Go.Proofs.Ytapfidadgafpbaa.M Go.Proofs.YtapfidadgafpbaaW.PrintWords Go.Proofs.YtapfidadgafpbaaW.PrintLast Go.Proofs.YtapfidadgafpbaaW.PrintMore
open Go.Lib (hid)
def lowU (c : UInt8) : UInt8 := if 65 ≤ c.toNat ∧ c.toNat ≤ 90 then UInt8.ofNat (c.toNat + 32) else c
def lowK (L : List UInt8) (k : Nat) : List UInt8 := (L.take k).map lowU ++ L.drop k
theorem lowK_zero (L : List UInt8) : lowK L 0 = L := by simp [lowK]
theorem lowK_all (L : List UInt8) : lowK L L.length = L.map lowU := by simp [lowK]
theorem lowK_length (L : List UInt8) (k : Nat) : (lowK L k).length = L.length := by simp [lowK]; omega
theorem lowK_at (L : List UInt8) (k : Nat) (h : k < L.length) : (lowK L k)[k]'(by rw [lowK_length]; exact h) = L[k] := by
  unfold lowK
  rw [List.getElem_append_right (by simp; omega)]
  simp [Nat.min_eq_left (Nat.le_of_lt h)]
theorem lowK_succ (L : List UInt8) (k : Nat) (h : k < L.length) : (lowK L k).set k (lowU L[k]) = lowK L (k + 1) := by
  unfold lowK
  rw [List.set_append_right _ _ (by simp; omega)]
  simp only [List.length_map, List.length_take, Nat.min_eq_left (Nat.le_of_lt h), Nat.sub_self]
  rw [List.take_succ_eq_append_getElem h, List.map_append, List.append_assoc]
  congr 1
  conv => lhs; rw [List.drop_eq_getElem_cons h]
  rfl
theorem lowK_same (L : List UInt8) (k : Nat) (h : k < L.length) (e : lowU L[k] = L[k]) : lowK L k = lowK L (k + 1) := by
  rw [← lowK_succ L k h, e, ← lowK_at L k h, List.set_getElem_self]
def lowS (s : ByteArray) : ByteArray := ⟨(s.data.toList.map lowU).toArray⟩
theorem RFold.no (k : Nat) (s : ByteArray) (w : World) (h : O.bailiwickref02_Right.f k s = some false) :
    Calls Try.prog 48 #[.string s] w fun e w' => e = .returned (.tuple #[.string ⟨#[]⟩, .bool false]) ∧ Below w.heap.size w w' := by
  have HR := hid (fun W => O.bailiwickref02_Right.calls k s false W h)
  clear h
  go_enter Try.func48, Try.ntmps48
  go_wp2_with fail
  refine (HR _).mono ?_
  rintro e w1 ⟨rfl, b1⟩
  go_wp2_with fail
  go_ret2
  exact ⟨rfl, b1⟩
set_option maxHeartbeats 4000000 in
set_option maxRecDepth 100000 in
theorem RFold.yes (k : Nat) (s : ByteArray) (w : World) (h : O.bailiwickref02_Right.f k s = some true) (hs : s.size ≤ 1000) :
    Calls Try.prog 48 #[.string s] w fun e w' => e = .returned (.tuple #[.string (lowS s), .bool true]) ∧ Below w.heap.size w w' := by
  have HR := hid (fun W => O.bailiwickref02_Right.calls k s true W h)
  clear h
  obtain ⟨L, hL⟩ : ∃ L, s.data.toList = L := ⟨_, rfl⟩
  have hsz : s.size = L.length := by rw [← hL]; rfl
  have hlow : lowS s = ⟨(L.map lowU).toArray⟩ := by rw [lowS, hL]
  rw [hlow]
  clear hlow
  replace hL := hid hL
  replace hsz := hid hsz
  go_enter Try.func48, Try.ntmps48
  go_wp2_with fail
  refine (HR _).mono ?_
  rintro e w1 ⟨rfl, b1⟩
  have B1 := hid b1
  clear b1
  have hcv := Lib.run_convert_string_bytes (P := Try.prog) w1 9 63 5 s Try.underlying9 Try.underlying63 (by kernel_rfl)
  have hm0 := MB.new w1 5 s
  rw [hL, ← lowK_zero L] at hm0
  have H0 := hid (And.intro hm0 (below_bytes w1 5 s))
  clear hm0
  go_wp2_with fail
  have hsz2 := hsz.out
  have hn2 : L.length ≤ 1000 := by omega
  clear hL hsz
  generalize s.size = sz at *
  subst hsz2
  go_loopw [6] (fun v wr => ∃ k : Nat, k ≤ L.length ∧ v = .int .i64 (k : Int) ∧ Hid (MB wr w1.heap.size 5 (lowK L k) ∧ Below w1.heap.size w1 wr)) (fun v _ => L.length - (intOf v).toNat)
  case atStart => exact ⟨0, Nat.zero_le _, rfl, H0⟩
  case round =>
    obtain ⟨k, hk, rfl, HH⟩ := hrel
    by_cases hlt : k < L.length
    · have hlt2 : (k : Int) < (L.length : Int) := by omega
      obtain ⟨hmb, hbl⟩ := HH
      have hkl : k < (lowK L k).length := by rw [lowK_length]; exact hlt
      have hc := hmb.cell k hkl
      rw [lowK_at L k hlt] at hc
      have hf := hmb.free k hkl
      have hstep := lowK_succ L k hlt
      have hsame := lowK_same L k hlt
      have hc256 := UInt8.toNat_lt L[k]
      generalize L[k] = c at *
      by_cases h65 : 65 ≤ c.toNat
      · by_cases h90 : c.toNat ≤ 90
        · have hm := hmb.set_ k (lowU c)
          rw [hstep] at hm
          have hl : ((lowU c).toNat : Int) = (c.toNat : Int) + 32 := by
            rw [lowU, if_pos ⟨h65, h90⟩]
            simp
            omega
          rw [hl] at hm
          have HN := hid (And.intro hm (hbl.setCell (p := ⟨w1.heap.size, k, none⟩) (Nat.le_refl _) (.int .u8 ((c.toNat : Int) + 32))))
          clear hm hstep hsame hmb hbl hl
          have i65 : (65 : Int) ≤ c.toNat := by omega
          have i90 : (c.toNat : Int) ≤ 90 := by omega
          have iw1 : ((c.toNat : Int) + 97) % 256 = (c.toNat : Int) + 97 := by omega
          have iw2 : ((c.toNat : Int) + 97 - 65) % 256 = (c.toNat : Int) + 32 := by omega
          go_wp2_with fail
          go_roundw
          case rel => exact ⟨k + 1, by omega, by go_num, by rw [show ((c.toNat : Int) + 97 - 65) = (c.toNat : Int) + 32 by omega]; exact HN⟩
          case measure => simp [intOf]; omega
        · have i65 : (65 : Int) ≤ c.toNat := by omega
          have i90 : ¬ (c.toNat : Int) ≤ 90 := by omega
          have e1 : lowU c = c := by rw [lowU, if_neg (by omega)]
          rw [hsame e1] at hmb
          have HN := hid (And.intro hmb hbl)
          clear hstep hsame hmb hbl e1
          go_wp2_with fail
          go_roundw
          case rel => exact ⟨k + 1, by omega, by go_num, HN⟩
          case measure => simp [intOf]; omega
      · have i65 : ¬ (65 : Int) ≤ c.toNat := by omega
        have e1 : lowU c = c := by rw [lowU, if_neg (by omega)]
        rw [hsame e1] at hmb
        have HN := hid (And.intro hmb hbl)
        clear hstep hsame hmb hbl e1
        go_wp2_with fail
        go_roundw
        case rel => exact ⟨k + 1, by omega, by go_num, HN⟩
        case measure => simp [intOf]; omega
    · obtain rfl : k = L.length := by omega
      obtain ⟨hmb, hbl⟩ := HH
      rw [lowK_all] at hmb
      have hcb := fun cap => hmb.str (P := Try.prog) (src := 63) (dst := 9) Try.underlying63 (by kernel_rfl) (by kernel_rfl) cap
      rw [List.length_map] at hcb
      have HN := hid (B1.out.trans (hbl.mono B1.out.size))
      clear hmb hbl
      go_wp2_with fail
      go_ret2
      exact ⟨rfl, HN.out⟩
def RFold.f (s : ByteArray) : Option (ByteArray × Bool) := (O.bailiwickref02_Right.f 40 s).bind fun b => if b = true then (if s.size ≤ 1000 then some (lowS s, true) else none) else some (⟨#[]⟩, false)
theorem RFold.calls (s : ByteArray) (r1 : ByteArray) (r2 : Bool) (w : World) (h : RFold.f s = some (r1, r2)) :
    Calls Try.prog 48 #[.string s] w fun e w' => e = .returned (.tuple #[.string r1, .bool r2]) ∧ Below w.heap.size w w' := by
  obtain ⟨b, hb, h⟩ := Option.bind_eq_some_iff.1 h
  cases b
  · rw [if_neg (by decide)] at h
    cases h
    exact RFold.no 40 s w hb
  · rw [if_pos rfl] at h
    split at h
    case isFalse => cases h
    rename_i hs
    cases h
    exact RFold.yes 40 s w hb hs
end Go.Proofs.Ytapfidadgafpbaa.R
