/-
  The law on letters that stand the other way round, walked by hand.
-/
import Derived.Test.YtjoogkpakelcaaaB2
import Derived.Test.YtjoogkpakelcaaaM0
import Derived.Test.YtjoogkpakelcaaaGx1
import Derived.Lib.Hide
import Derived.WalkKit
import Derived.WalkSpells
import Derived.WalkLawsBesides
import Derived.RegionTactic
import Derived.ChangeAlike
import Derived.BigRegion
import Derived.OpenShut
namespace Go.Proofs.Ytjoogkpakelcaaa.Pure
set_option linter.unusedVariables false
set_option linter.unusedSimpArgs false
open Go.RowKit Go.Proofs.Ytjoogkpakelcaaa.G Go.Proofs.Ytjoogkpakelcaaa.M Go.Proofs.YtjoogkpakelcaaaW.PrintWords Go.Proofs.YtjoogkpakelcaaaW.PrintLast
open Go.Lib (hid)
theorem next {w w1 w2 : World} (h : Below w.heap.size w w1) (k : Below w1.heap.size w1 w2) : Below w.heap.size w w2 := below_then h h.size k

theorem there_bool (m d : Nat) : (((m : Int) / 2 ^ d).tmod 2 == 1) = m.testBit d := by
  have e : ((m : Int) / 2 ^ d) = ((m / 2 ^ d : Nat) : Int) := by simp
  rw [e, show Int.tmod ((m / 2 ^ d : Nat) : Int) 2 = ((m / 2 ^ d % 2 : Nat) : Int) from rfl, mod_two_bit]
  cases m.testBit d <;> rfl
theorem conv_one (w : World) (d : Nat) (z : ByteArray) (hd : d < 16) (hz : z = ⟨#[UInt8.ofNat (97 + d)]⟩) :
    (convert 30 9 (.slice (some ⟨w.heap.size, 0, none⟩) 1 1)).run Try.prog (w.alloc (.cells #[.int .u8 (97 + (d : Int))] 5)) = .ok (.string z) (w.alloc (.cells #[.int .u8 (97 + (d : Int))] 5)) := by
  have h := run_convert_bytes_arg (P := Try.prog) (w.alloc (.cells #[.int .u8 (97 + (d : Int))] 5)) 30 5 Try.underlying30 (by kernel_rfl) w.heap.size 0 1 1 [97 + (d : Int)] (by simp) (fun i hi => by
    rw [Nat.zero_add, cell_of_row _ _ i _ 5 (0, 0) (heap_alloc_new w _)]
    obtain rfl : i = 0 := by simp at hi; omega
    rfl) 9 (by kernel_rfl)
  rw [h, hz]
  congr 2
set_option maxRecDepth 100000 in
set_option maxHeartbeats 4000000 in
theorem turned_there (m c : Nat) (L : List UInt8) (s : ByteArray) (w : World) (hm : m < 65536) (hc : c < 256) (hs : s.data.toList = L) (hL : L.length ≤ 16)
    (T : rights_Text.f 17 (m : Int) = some (s, true)) (P1 : rights_Parse.f ⟨L.reverse.toArray⟩ = some ((m : Int), true))
    (d : Nat) (hd : (c : Int) % 16 = (d : Int)) (hd16 : d < 16) (z : ByteArray) (hz : z = ⟨#[UInt8.ofNat (97 + d)]⟩) (hth : (((m : Int) / 2 ^ d).tmod 2 == 1) = true)
    (P2 : rights_Parse.f (s ++ z) = some (0, false)) (P3 : rights_Parse.f (s ++ ⟨#[113]⟩) = some (0, false)) :
    Calls Try.prog 5 #[.int .u16 m, .int .u8 c] w fun e w' => e = .returned (.bool true) ∧ Below w.heap.size w w' := by
  have HE := hid (fun W => bailiwicklaw05_examples.calls 17 true W (ex_eq 17 (by omega)))
  have HT := hid (fun W => rights_Text.calls 17 (m : Int) s true W T)
  have H1 := hid (fun W => rights_Parse.calls _ _ _ W P1)
  have hsz : s.size = L.length := by rw [← hs]; rfl
  have H2 := hid (fun W => rights_Parse.calls _ _ _ W P2)
  have H3 := hid (fun W => rights_Parse.calls _ _ _ W P3)
  have HZ := hid hz
  clear T P1 P2 P3 hz
  go_enter Try.func5, Try.ntmps5
  go_wp2_with fail
  refine (HE _).mono ?_
  rintro e w1 ⟨rfl, b1⟩
  have B1 := hid b1
  clear b1
  go_wp2_with fail
  refine (HT _).mono ?_
  rintro e w2 ⟨rfl, b2⟩
  have B2 := hid (next B1 b2)
  clear b2 B1
  have hcv := Lib.run_convert_string_bytes (P := Try.prog) w2 9 30 5 s Try.underlying9 Try.underlying30 (by kernel_rfl)
  have hm0 := MB.new w2 5 s
  rw [hs] at hm0
  have H0 := hid (And.intro hm0 (below_bytes w2 5 s))
  clear hm0
  have SZ := hid hsz
  generalize hn : L.length = n at *
  go_wp2_with fail
  go_loopw [9] (fun i wr => ∃ k : Nat, k ≤ n / 2 ∧ i = .int .i64 k ∧ Hid (MB wr w2.heap.size 5 (revK L k) ∧ Below w2.heap.size w2 wr)) (fun i _ => n - (intOf i).toNat)
  case atStart => exact ⟨0, Nat.zero_le _, rfl, H0⟩
  case round =>
    obtain ⟨k, hk, rfl, HH⟩ := hrel
    have hn0 : 0 ≤ (n : Int) := Int.natCast_nonneg n
    have hq2 : Int.tdiv (n : Int) 2 = ((n / 2 : Nat) : Int) := rfl
    by_cases hlt : k < n / 2
    · have hlt2 : (k : Int) < (n : Int) / 2 := by omega
      obtain ⟨hmb, hbl⟩ := HH
      obtain ⟨q, hq⟩ : ∃ q : Nat, q = n - 1 - k := ⟨_, rfl⟩
      have hqi : (n : Int) - 1 - (k : Int) = (q : Int) := by omega
      have hqn : q < n := by omega
      have hkn : k < n := by omega
      have hXl : (revK L k).length = n := by rw [revK_length]; exact hn
      have hk1 : revK L (k + 1) = ((revK L k).set k ((revK L k).getD q 0)).set q ((revK L k).getD k 0) := by rw [revK, hn, hq]
      have hx : (revK L k)[k]? = some ((revK L k).getD k 0) := by rw [List.getD_eq_getElem?_getD, List.getElem?_eq_getElem (by omega)]; rfl
      have hy : (revK L k)[q]? = some ((revK L k).getD q 0) := by rw [List.getD_eq_getElem?_getD, List.getElem?_eq_getElem (by omega)]; rfl
      generalize revK L k = X at *
      generalize X.getD k 0 = x at *
      generalize X.getD q 0 = y at *
      have hx2 : X[k]'(by omega) = x := by rw [List.getElem?_eq_getElem (by omega)] at hx; exact Option.some.inj hx
      have hy2 : X[q]'(by omega) = y := by rw [List.getElem?_eq_getElem (by omega)] at hy; exact Option.some.inj hy
      have hc1 : wr.drew.cell? ⟨w2.heap.size, k, none⟩ = some (.int .u8 ((x.toNat : Nat) : Int)) := by rw [← hx2]; exact hmb.cell k (by omega)
      have hc2 : wr.drew.cell? ⟨w2.heap.size, q, none⟩ = some (.int .u8 ((y.toNat : Nat) : Int)) := by rw [← hy2]; exact hmb.cell q (by omega)
      have hf1 : wr.drew.frozen? ⟨w2.heap.size, k, none⟩ = false := hmb.free k (by omega)
      have hf2 : wr.drew.frozen? ⟨w2.heap.size, q, none⟩ = false := hmb.free q (by omega)
      have hm1 := (hmb.set_ k y).drew
      have hf3 : (wr.setCell ⟨w2.heap.size, k, none⟩ (.int .u8 ((y.toNat : Nat) : Int))).drew.frozen? ⟨w2.heap.size, q, none⟩ = false := hm1.free q (by simp; omega)
      have hc3 : ∃ v, (wr.setCell ⟨w2.heap.size, k, none⟩ (.int .u8 ((y.toNat : Nat) : Int))).drew.cell? ⟨w2.heap.size, q, none⟩ = some v := ⟨_, hm1.cell q (by simp; omega)⟩
      obtain ⟨v3, hc3⟩ := hc3
      have HN := hid (And.intro ((hmb.set_ k y).set_ q x).drew ((hbl.setCell (p := ⟨w2.heap.size, k, none⟩) (Nat.le_refl _) (.int .u8 ((y.toNat : Nat) : Int))).setCell (p := ⟨w2.heap.size, q, none⟩) (Nat.le_refl _) (.int .u8 ((x.toNat : Nat) : Int))).drew)
      have HK1 := hid hk1
      clear hm1 hmb hbl hk1 hx hy hx2 hy2 hXl hq SZ
      go_wp2_with fail
      go_region
      all_goals go_wp2_with fail
      all_goals go_roundw
      case rel => exact ⟨k + 1, by omega, by go_num, by rw [show revK L (k + 1) = _ from HK1]; exact HN⟩
      case measure => simp [intOf]; omega
    · obtain rfl : k = n / 2 := by omega
      have hlt2 : ¬ ((n / 2 : Nat) : Int) < (n : Int) / 2 := by omega
      obtain ⟨hmb, hbl⟩ := HH
      have hr : revK L (n / 2) = L.reverse := by rw [← hn]; exact revK_half L
      rw [hr] at hmb
      have hcb := hmb.str (P := Try.prog) (src := 30) (dst := 9) Try.underlying30 (by kernel_rfl) (by kernel_rfl) (grownCap w2 n 0 5)
      rw [List.length_reverse, hn] at hcb
      have HB := hid (next B2 hbl)
      clear hbl hmb hr
      generalize (⟨L.reverse.toArray⟩ : ByteArray) = rs at *
      go_wp2_with fail
      refine (H1 _).mono ?_
      rintro e w3 ⟨rfl, b3⟩
      have B3 := hid (next HB b3)
      clear b3 HB hcb
      have hz1 : z.size = 1 := by rw [show z = _ from HZ]; rfl
      have hsl : s.size = n := SZ
      have hl1 : (9223372036854775807 < n + z.size) = False := eq_false (by omega)
      have hl2 : (9223372036854775807 < s.size + 1) = False := eq_false (by omega)
      have hl3 : (9223372036854775807 < n + 1) = False := eq_false (by omega)
      clear hsl hz1
      have hcv2 := conv_one w3 d z hd16 HZ
      have hbb := hid ((Below.refl w3.heap.size w3).alloc (Nat.le_refl _) (.cells #[.int .u8 (97 + (d : Int))] 5))
      go_wp2_with fail
      refine (H2 _).mono ?_
      rintro e w4 ⟨rfl, b4⟩
      have B4 := hid (next (next B3 hbb) b4)
      clear b4 B3 hbb hcv2
      go_wp2_with fail
      refine (H3 _).mono ?_
      rintro e w5 ⟨rfl, b5⟩
      have B5 := hid (next B4 b5)
      clear b5 B4
      go_wp2_with fail
      go_ret
      exact ⟨rfl, B5⟩
set_option maxRecDepth 100000 in
set_option maxHeartbeats 4000000 in
theorem turned_more (m c : Nat) (L : List UInt8) (s : ByteArray) (w : World) (hm : m < 65536) (hc : c < 256) (hs : s.data.toList = L) (hL : L.length ≤ 16)
    (T : rights_Text.f 17 (m : Int) = some (s, true)) (P1 : rights_Parse.f ⟨L.reverse.toArray⟩ = some ((m : Int), true))
    (d : Nat) (hd : (c : Int) % 16 = (d : Int)) (hd16 : d < 16) (z : ByteArray) (hz : z = ⟨#[UInt8.ofNat (97 + d)]⟩) (hth : (((m : Int) / 2 ^ d).tmod 2 == 1) = false)
    (o q : Nat) (ho : o < 65536) (hq : q ≤ 16) (hor : bits .or .i64 (m : Int) (wrap64 (2 ^ d)) = (o : Int)) (C1 : rights_Count.f (o : Int) = some ((q : Int) + 1)) (C2 : rights_Count.f (m : Int) = some (q : Int)) (P2 : rights_Parse.f (s ++ z) = some ((o : Int), true)) (P3 : rights_Parse.f (s ++ ⟨#[113]⟩) = some (0, false)) :
    Calls Try.prog 5 #[.int .u16 m, .int .u8 c] w fun e w' => e = .returned (.bool true) ∧ Below w.heap.size w w' := by
  have HE := hid (fun W => bailiwicklaw05_examples.calls 17 true W (ex_eq 17 (by omega)))
  have HT := hid (fun W => rights_Text.calls 17 (m : Int) s true W T)
  have H1 := hid (fun W => rights_Parse.calls _ _ _ W P1)
  have hsz : s.size = L.length := by rw [← hs]; rfl
  have HC1 := hid (fun W => rights_Count.calls _ _ W C1)
  have HC2 := hid (fun W => rights_Count.calls _ _ W C2)
  have H2 := hid (fun W => rights_Parse.calls _ _ _ W P2)
  have H3 := hid (fun W => rights_Parse.calls _ _ _ W P3)
  have HZ := hid hz
  clear T P1 P2 P3 hz C1 C2
  go_enter Try.func5, Try.ntmps5
  go_wp2_with fail
  refine (HE _).mono ?_
  rintro e w1 ⟨rfl, b1⟩
  have B1 := hid b1
  clear b1
  go_wp2_with fail
  refine (HT _).mono ?_
  rintro e w2 ⟨rfl, b2⟩
  have B2 := hid (next B1 b2)
  clear b2 B1
  have hcv := Lib.run_convert_string_bytes (P := Try.prog) w2 9 30 5 s Try.underlying9 Try.underlying30 (by kernel_rfl)
  have hm0 := MB.new w2 5 s
  rw [hs] at hm0
  have H0 := hid (And.intro hm0 (below_bytes w2 5 s))
  clear hm0
  have SZ := hid hsz
  generalize hn : L.length = n at *
  go_wp2_with fail
  go_loopw [9] (fun i wr => ∃ k : Nat, k ≤ n / 2 ∧ i = .int .i64 k ∧ Hid (MB wr w2.heap.size 5 (revK L k) ∧ Below w2.heap.size w2 wr)) (fun i _ => n - (intOf i).toNat)
  case atStart => exact ⟨0, Nat.zero_le _, rfl, H0⟩
  case round =>
    obtain ⟨k, hk, rfl, HH⟩ := hrel
    have hn0 : 0 ≤ (n : Int) := Int.natCast_nonneg n
    have hq2 : Int.tdiv (n : Int) 2 = ((n / 2 : Nat) : Int) := rfl
    by_cases hlt : k < n / 2
    · have hlt2 : (k : Int) < (n : Int) / 2 := by omega
      obtain ⟨hmb, hbl⟩ := HH
      obtain ⟨q, hq⟩ : ∃ q : Nat, q = n - 1 - k := ⟨_, rfl⟩
      have hqi : (n : Int) - 1 - (k : Int) = (q : Int) := by omega
      have hqn : q < n := by omega
      have hkn : k < n := by omega
      have hXl : (revK L k).length = n := by rw [revK_length]; exact hn
      have hk1 : revK L (k + 1) = ((revK L k).set k ((revK L k).getD q 0)).set q ((revK L k).getD k 0) := by rw [revK, hn, hq]
      have hx : (revK L k)[k]? = some ((revK L k).getD k 0) := by rw [List.getD_eq_getElem?_getD, List.getElem?_eq_getElem (by omega)]; rfl
      have hy : (revK L k)[q]? = some ((revK L k).getD q 0) := by rw [List.getD_eq_getElem?_getD, List.getElem?_eq_getElem (by omega)]; rfl
      generalize revK L k = X at *
      generalize X.getD k 0 = x at *
      generalize X.getD q 0 = y at *
      have hx2 : X[k]'(by omega) = x := by rw [List.getElem?_eq_getElem (by omega)] at hx; exact Option.some.inj hx
      have hy2 : X[q]'(by omega) = y := by rw [List.getElem?_eq_getElem (by omega)] at hy; exact Option.some.inj hy
      have hc1 : wr.drew.cell? ⟨w2.heap.size, k, none⟩ = some (.int .u8 ((x.toNat : Nat) : Int)) := by rw [← hx2]; exact hmb.cell k (by omega)
      have hc2 : wr.drew.cell? ⟨w2.heap.size, q, none⟩ = some (.int .u8 ((y.toNat : Nat) : Int)) := by rw [← hy2]; exact hmb.cell q (by omega)
      have hf1 : wr.drew.frozen? ⟨w2.heap.size, k, none⟩ = false := hmb.free k (by omega)
      have hf2 : wr.drew.frozen? ⟨w2.heap.size, q, none⟩ = false := hmb.free q (by omega)
      have hm1 := (hmb.set_ k y).drew
      have hf3 : (wr.setCell ⟨w2.heap.size, k, none⟩ (.int .u8 ((y.toNat : Nat) : Int))).drew.frozen? ⟨w2.heap.size, q, none⟩ = false := hm1.free q (by simp; omega)
      have hc3 : ∃ v, (wr.setCell ⟨w2.heap.size, k, none⟩ (.int .u8 ((y.toNat : Nat) : Int))).drew.cell? ⟨w2.heap.size, q, none⟩ = some v := ⟨_, hm1.cell q (by simp; omega)⟩
      obtain ⟨v3, hc3⟩ := hc3
      have HN := hid (And.intro ((hmb.set_ k y).set_ q x).drew ((hbl.setCell (p := ⟨w2.heap.size, k, none⟩) (Nat.le_refl _) (.int .u8 ((y.toNat : Nat) : Int))).setCell (p := ⟨w2.heap.size, q, none⟩) (Nat.le_refl _) (.int .u8 ((x.toNat : Nat) : Int))).drew)
      have HK1 := hid hk1
      clear hm1 hmb hbl hk1 hx hy hx2 hy2 hXl hq SZ
      go_wp2_with fail
      go_region
      all_goals go_wp2_with fail
      all_goals go_roundw
      case rel => exact ⟨k + 1, by omega, by go_num, by rw [show revK L (k + 1) = _ from HK1]; exact HN⟩
      case measure => simp [intOf]; omega
    · obtain rfl : k = n / 2 := by omega
      have hlt2 : ¬ ((n / 2 : Nat) : Int) < (n : Int) / 2 := by omega
      obtain ⟨hmb, hbl⟩ := HH
      have hr : revK L (n / 2) = L.reverse := by rw [← hn]; exact revK_half L
      rw [hr] at hmb
      have hcb := hmb.str (P := Try.prog) (src := 30) (dst := 9) Try.underlying30 (by kernel_rfl) (by kernel_rfl) (grownCap w2 n 0 5)
      rw [List.length_reverse, hn] at hcb
      have HB := hid (next B2 hbl)
      clear hbl hmb hr
      generalize (⟨L.reverse.toArray⟩ : ByteArray) = rs at *
      go_wp2_with fail
      refine (H1 _).mono ?_
      rintro e w3 ⟨rfl, b3⟩
      have B3 := hid (next HB b3)
      clear b3 HB hcb
      have hz1 : z.size = 1 := by rw [show z = _ from HZ]; rfl
      have hsl : s.size = n := SZ
      have hl1 : (9223372036854775807 < n + z.size) = False := eq_false (by omega)
      have hl2 : (9223372036854775807 < s.size + 1) = False := eq_false (by omega)
      have hl3 : (9223372036854775807 < n + 1) = False := eq_false (by omega)
      clear hsl hz1
      have hcv2 := conv_one w3 d z hd16 HZ
      have hbb := hid ((Below.refl w3.heap.size w3).alloc (Nat.le_refl _) (.cells #[.int .u8 (97 + (d : Int))] 5))
      go_wp2_with fail
      refine (H2 _).mono ?_
      rintro e w4 ⟨rfl, b4⟩
      have B4 := hid (next (next B3 hbb) b4)
      clear b4 B3 hbb hcv2
      go_wp2_with fail
      refine (H3 _).mono ?_
      rintro e w5 ⟨rfl, b5⟩
      have B5 := hid (next B4 b5)
      clear b5 B4
      go_wp2_with fail
      refine (HC1 _).mono ?_
      rintro e w6 ⟨rfl, ⟨nd6, rfl⟩⟩
      go_wp2_with fail
      refine (HC2 _).mono ?_
      rintro e w7 ⟨rfl, ⟨nd7, rfl⟩⟩
      go_wp2_with fail
      go_ret
      exact ⟨rfl, next B5 (by first | exact pw_below_drewN (pw_below_drewN (Below.refl _ _) _) _ | exact pw_below_drewN (Below.refl _ _) _)⟩
theorem RightsTurned_walk (a0 a1 : Int) (w : World) (w0 : (Lit.int .u16 a0).wf = true) (w1 : (Lit.int .u8 a1).wf = true) :
    Calls Try.prog 5 #[.int .u16 a0, .int .u8 a1] w fun e w' => e = .returned (.bool true) ∧ Below w.heap.size w w' := by
  have e0 := bounds_u16 w0
  have e1 := bounds_u8 w1
  obtain ⟨m, rfl⟩ := Int.eq_ofNat_of_zero_le e0.1
  obtain ⟨c, rfl⟩ := Int.eq_ofNat_of_zero_le e1.1
  have hm : m < 65536 := by omega
  have hp := nn_eq m hm
  have hL : (lets m).length ≤ 16 := by rw [lets_length]; omega
  have hd : (c : Int) % 16 = ((c % 16 : Nat) : Int) := by omega
  have T := text_eq m hm 17 (by omega)
  have P1 : rights_Parse.f ⟨(lets m).reverse.toArray⟩ = some ((m : Int), true) := by
    unfold rights_Parse.f
    show some (match pz (lets m).reverse 0 with | some m => ((m : Int), true) | none => (0, false)) = _
    rw [pz_turned m hm]
  have app : ∀ x : UInt8, ((⟨(lets m).toArray⟩ : ByteArray) ++ ⟨#[x]⟩).data.toList = lets m ++ [x] := fun x => by simp
  have P3 : rights_Parse.f ((⟨(lets m).toArray⟩ : ByteArray) ++ ⟨#[113]⟩) = some (0, false) := by
    unfold rights_Parse.f
    rw [app, pz_strange m hm]
  have hb := there_bool m (c % 16)
  cases ht : m.testBit (c % 16) with
  | true =>
    have P2 : rights_Parse.f ((⟨(lets m).toArray⟩ : ByteArray) ++ ⟨#[UInt8.ofNat (97 + c % 16)]⟩) = some (0, false) := by
      unfold rights_Parse.f
      rw [app, pz_more m (c % 16) hm (by omega), if_neg (by rw [ht]; decide)]
    exact turned_there m c (lets m) ⟨(lets m).toArray⟩ w hm (by omega) rfl hL T P1 (c % 16) hd (by omega) _ rfl (by rw [hb, ht]) P2 P3
  | false =>
    have h2 := two_pow_k (c % 16) (by omega)
    have ho : m ||| 2 ^ (c % 16) < 65536 := Nat.or_lt_two_pow (n := 16) (by omega) (by omega)
    have P2 : rights_Parse.f ((⟨(lets m).toArray⟩ : ByteArray) ++ ⟨#[UInt8.ofNat (97 + c % 16)]⟩) = some (((m ||| 2 ^ (c % 16) : Nat) : Int), true) := by
      unfold rights_Parse.f
      rw [app, pz_more m (c % 16) hm (by omega), if_pos ht]
    have hor : bits .or .i64 (m : Int) (wrap64 (2 ^ (c % 16))) = ((m ||| 2 ^ (c % 16) : Nat) : Int) := by
      rw [h2.1, i64_or _ _ (by omega) (by omega)]
    have C1 : rights_Count.f ((m ||| 2 ^ (c % 16) : Nat) : Int) = some ((pc m : Int) + 1) := by
      rw [count_eq _ ho, pc_set m (c % 16) (by omega) ht]; rfl
    exact turned_more m c (lets m) ⟨(lets m).toArray⟩ w hm (by omega) rfl hL T P1 (c % 16) hd (by omega) _ rfl (by rw [hb, ht]) _ (pc m) ho (by omega) hor C1 (count_eq m hm) P2 P3
end Go.Proofs.Ytjoogkpakelcaaa.Pure
