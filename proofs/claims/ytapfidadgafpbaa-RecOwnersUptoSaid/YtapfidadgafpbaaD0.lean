/-
  The reference's principals: written and read as the code does.
-/
import Derived.Test.YtapfidadgafpbaaC3
import Derived.Test.YtapfidadgafpbaaB7
import Derived.Test.YtapfidadgafpbaaQx2
namespace Go.Proofs.Ytapfidadgafpbaa.Pure
set_option linter.unusedVariables false
set_option linter.unusedSimpArgs false
open Go.RowKit Go.Proofs.Ytapfidadgafpbaa.G Go.Proofs.Ytapfidadgafpbaa.R Go.Proofs.YtapfidadgafpbaaW.PrintWords Go.Proofs.YtapfidadgafpbaaW.PrintLast Go.Proofs.YtapfidadgafpbaaW.PrintMore
theorem rfold_eq (nm : ByteArray) (hz : nm.size ≤ 2000000) : RFold.f nm = some (foldB nm, rightB nm) := by
  rw [RFold.f, ref_right 40 nm (by decide) (by omega), Option.bind_some]
  cases hr : rightB nm
  · rw [if_neg (by decide), fold_wrong nm hr]
  · have := right_size nm hr
    rw [if_pos rfl, if_pos (by omega), fold_low nm hr]
theorem rown_eq (i : Int) (nm : ByteArray) (l h : Int) (hz : nm.size ≤ 2000000) : Q.bailiwickref14_OwnerRight.f i nm l h = some (decide (ownOk i nm l h)) := by
  simp only [Q.bailiwickref14_OwnerRight.f, rfold_eq nm hz, rin_eq, Option.bind_some, toList_inj, decide_eq_true_eq]
  by_cases h1 : rightB nm = true
  case neg => rw [if_neg h1, decide_eq_false (fun hh => h1 hh.1.1)]
  rw [if_pos h1]
  by_cases h2 : foldB nm = nm
  case neg => rw [if_neg h2, decide_eq_false (fun hh => h2 hh.1.2)]
  rw [if_pos h2]
  by_cases h3 : 1 ≤ i ∧ i ≤ 16777215
  case neg => rw [if_neg h3, decide_eq_false (fun hh => h3 ⟨hh.2.1, hh.2.2.1⟩)]
  rw [if_pos h3]
  by_cases h4 : 0 ≤ l ∧ l ≤ 1000
  case neg => rw [if_neg h4, decide_eq_false (fun hh => h4 ⟨hh.2.2.2.1, hh.2.2.2.2.1⟩)]
  rw [if_pos h4]
  congr 1
  rw [decide_eq_decide]
  exact ⟨fun hh => ⟨⟨h1, h2⟩, h3.1, h3.2, h4.1, h4.2, hh.1, hh.2⟩, fun hh => hh.2.2.2.2.2⟩
theorem rtext_ok (nm : ByteArray) (h : nm.size ≤ 255) : P.bailiwickref01_Text.f nm = some (strOfNums [(nm.size : Int) % 256] ++ nm, true) := by
  rw [P.bailiwickref01_Text.f, if_neg (by omega), Option.bind_some, if_pos (by rw [strOfNums_size]; simp; omega)]
theorem rowrite_eq (i : Int) (nm : ByteArray) (l h : Int) (hz : nm.size ≤ 2000000) : Q.bailiwickref14_PutOwner.f 40 i nm l h = if ownOk i nm l h then some (ownB l h nm, true) else some (⟨#[]⟩, false) := by
  rw [Q.bailiwickref14_PutOwner.f, rown_eq i nm l h hz, Option.bind_some]
  by_cases hk : ownOk i nm l h
  · rw [if_pos (decide_eq_true hk), if_pos hk]
    have hn := name_size nm hk.1
    obtain ⟨-, g1, g2, g3, g4, g5, g6⟩ := hk
    have p1 := rput2 l (by omega) (by omega)
    rw [if_pos (by omega)] at p1
    have p2 := rput2 h (by omega) (by omega)
    rw [if_pos (by omega)] at p2
    have w1 := rput_ok l 2 _ _ (by omega) (by omega) p1
    have w2 := rput_ok h 2 _ _ (by omega) (by omega) p2
    rw [show ((2 : Nat) : Int) = 2 from rfl] at w1 w2
    have z1 := bytes_size 2 l
    have z2 := bytes_size 2 h
    have z3 : (strOfNums [(nm.size : Int) % 256] ++ nm).size = 1 + nm.size := by rw [ByteArray.size_append, strOfNums_size]; rfl
    rw [rtext_ok nm (by omega), Option.bind_some, w1, Option.bind_some, w2, Option.bind_some, if_pos (by omega), if_pos (by rw [ByteArray.size_append]; show _ + (strOfNums [(nm.size : Int) % 256] ++ nm).size ≤ _; omega)]
    rfl
  · rw [if_neg (by simpa using hk), if_neg hk]
theorem rtakeText_eq (r : ByteArray) (hz : r.size ≤ 140737488355328) : P.bailiwickref01_TakeText.f r = if r.size = 0 then some (⟨#[]⟩, ⟨#[]⟩, false) else if bt r 0 ≥ r.size then some (⟨#[]⟩, ⟨#[]⟩, false) else some (r.extract 1 (bt r 0 + 1).toNat, r.extract (bt r 0 + 1).toNat r.size, true) := by
  have b := bt_range r 0
  unfold P.bailiwickref01_TakeText.f
  by_cases h0 : r.size = 0
  · have : r = ⟨#[]⟩ := by
      apply ByteArray.ext
      exact Array.eq_empty_of_size_eq_zero h0
    rw [if_pos h0, this, if_pos (by rw [ByteArray.toList_eq])]
  · have e0 : ¬ r.toList = [] := by
      rw [ByteArray.toList_eq]
      intro e
      have : r.data.toList.length = 0 := by rw [e]; rfl
      rw [Array.length_toList] at this
      exact h0 this
    rw [if_neg e0, if_neg h0, if_pos (by omega), wrap64_in (bt r 0) (by omega) (by omega), wrap64_in ((r.size : Int) - 1) (by omega) (by omega)]
    by_cases h1 : bt r 0 ≥ r.size
    · rw [if_pos (by omega), if_pos h1]
    · rw [if_neg (by omega), if_neg h1, Int.add_comm 1 (bt r 0)]
      simp only [wrap64_in (bt r 0 + 1) (by omega) (by omega)]
      repeat rw [if_pos (by omega)]
theorem ownB_of (s : ByteArray) (n : Nat) (h : s.size = n + 5) (hb : bt s ((4 : Nat) : Int) = n) : ownB (dat s 0 2) (dat s 2 2) (s.extract 5 s.size) = s := by
  have bb := bt_range s ((4 : Nat) : Int)
  unfold ownB
  have e : strOfNums [((s.extract 5 s.size).size : Int) % 256] = s.extract 4 5 := by
    have := str_at s 4 1 (by omega)
    rw [← this]
    have e2 : (s.extract 5 s.size).size = n := by rw [ByteArray.size_extract]; omega
    rw [e2, be, be, List.nil_append]
    congr 2
    rw [dat, dat, show ((4 + 0 : Nat) : Int) = ((4 : Nat) : Int) from rfl, hb]
    omega
  rw [e, str_at s 0 2 (by omega), str_at s 2 2 (by omega)]
  rw [show 0 + 2 = 2 from rfl, show 2 + 2 = 4 from rfl, extract_append s 0 2 4 (by omega) (by omega) (by omega), extract_append s 4 5 s.size (by omega) (by omega) (by omega), extract_append s 0 4 s.size (by omega) (by omega) (by omega)]
  exact extract_all s
/-- What the reference reads. -/
theorem rotake (id : Int) (s : ByteArray) (hz : s.size ≤ 2000000) : (∃ nm l h, Q.bailiwickref14_TakeOwner.f 40 id s = some (id, nm, l, h, true) ∧ ownOk id nm l h ∧ ownB l h nm = s) ∨ Q.bailiwickref14_TakeOwner.f 40 id s = some (0, ⟨#[]⟩, 0, 0, false) := by
  rw [Q.bailiwickref14_TakeOwner.f]
  by_cases h4 : (s.size : Int) < 4
  · rw [if_pos h4]; exact .inr rfl
  · rw [if_neg h4, if_pos (by omega)]
    have hr : (s.extract 4 s.size).size = s.size - 4 := by rw [ByteArray.size_extract]; omega
    have t1 := rtake_ok s 0 2 (by decide) (by decide) (by omega)
    have t2 := rtake_ok s 2 2 (by decide) (by decide) (by omega)
    rw [show ((0 : Nat) : Int) = 0 from rfl, show ((2 : Nat) : Int) = 2 from rfl] at t1
    rw [show ((2 : Nat) : Int) = 2 from rfl] at t2
    have b0 : bt (s.extract 4 s.size) 0 = bt s ((4 : Nat) : Int) := bt_extract s 4 0 (by omega)
    have bb := bt_range s ((4 : Nat) : Int)
    rw [rtakeText_eq _ (by omega), hr, b0, t1, t2]
    have name : ∀ nm : ByteArray, nm.size ≤ 2000000 → Q.bailiwickref14_OwnerRight.f id nm (dat s 0 2) (dat s 2 2) = some (decide (ownOk id nm (dat s 0 2) (dat s 2 2))) := fun nm hn => rown_eq id nm _ _ hn
    by_cases g0 : s.size - 4 = 0
    · rw [if_pos g0, Option.bind_some, Option.bind_some, Option.bind_some, name _ (by decide), Option.bind_some, if_neg (by simp)]
      exact .inr rfl
    · rw [if_neg g0]
      by_cases g1 : bt s ((4 : Nat) : Int) ≥ ((s.size - 4 : Nat) : Int)
      · rw [if_pos g1, Option.bind_some, Option.bind_some, Option.bind_some, name _ (by decide), Option.bind_some, if_neg (by simp)]
        exact .inr rfl
      · rw [if_neg g1, Option.bind_some, Option.bind_some, Option.bind_some, name _ (by rw [ByteArray.size_extract]; omega), Option.bind_some, if_pos rfl]
        by_cases g2 : ((s.extract 4 s.size).extract (bt s ((4 : Nat) : Int) + 1).toNat (s.size - 4)).toList = []
        · rw [if_pos g2]
          rw [ByteArray.toList_eq] at g2
          have z2 : ((s.extract 4 s.size).extract (bt s ((4 : Nat) : Int) + 1).toNat (s.size - 4)).size = 0 := by
            have := congrArg List.length g2
            rw [Array.length_toList] at this
            exact this
          rw [ByteArray.size_extract, hr] at z2
          obtain ⟨n, hn⟩ := Int.eq_ofNat_of_zero_le bb.1
          rw [hn] at z2 g1 ⊢
          have hs : s.size = n + 5 := by omega
          have hnm : (s.extract 4 s.size).extract 1 ((n : Int) + 1).toNat = s.extract 5 s.size := by
            rw [show ((n : Int) + 1).toNat = (s.extract 4 s.size).size by rw [hr]; omega, extract_extract s 4 1 (by omega)]
          rw [hnm]
          by_cases hk : ownOk id (s.extract 5 s.size) (dat s 0 2) (dat s 2 2)
          · rw [if_pos (decide_eq_true hk)]
            exact .inl ⟨_, _, _, rfl, hk, ownB_of s n hs hn⟩
          · rw [if_neg (by simpa using hk)]
            exact .inr rfl
        · rw [if_neg g2]; exact .inr rfl
/-- What the reference reads of what is written. -/
theorem ro_back (id : Int) (nm : ByteArray) (l h : Int) (hk : ownOk id nm l h) : Q.bailiwickref14_TakeOwner.f 40 id (ownB l h nm) = some (id, nm, l, h, true) := by
  have hn := name_size nm hk.1
  have z := ownB_size l h nm
  have b4 := ownB_len l h nm hn
  have hk2 := hk
  obtain ⟨-, g1, g2, g3, g4, g5, g6⟩ := hk2
  have d1 : dat (ownB l h nm) 0 2 = l := by
    unfold ownB
    rw [dat_left _ _ 0 2 (by simp only [ByteArray.size_append, bytes_size]; decide), dat_left _ _ 0 2 (by simp only [bytes_size]; decide), dat_be 2 l (by omega) (by show l < 65536; omega)]
  have d2 : dat (ownB l h nm) 2 2 = h := by
    unfold ownB
    rw [dat_left _ _ 2 2 (by simp only [ByteArray.size_append, bytes_size]; decide), dat_right _ _ 2 (by simp only [bytes_size]), dat_be 2 h (by omega) (by show h < 65536; omega)]
  have x5 : (ownB l h nm).extract 5 (ownB l h nm).size = nm := by
    have e : ownB l h nm = (strOfNums (be 2 l) ++ strOfNums (be 2 h) ++ strOfNums [(nm.size : Int) % 256]) ++ nm := by
      unfold ownB
      simp only [ByteArray.append_assoc]
    rw [e]
    exact extract_right _ _ 5 (by simp only [ByteArray.size_append, bytes_size, strOfNums_size]; rfl)
  have hr : ((ownB l h nm).extract 4 (ownB l h nm).size).size = nm.size + 1 := by rw [ByteArray.size_extract]; omega
  have t1 := rtake_ok (ownB l h nm) 0 2 (by decide) (by decide) (by omega)
  have t2 := rtake_ok (ownB l h nm) 2 2 (by decide) (by decide) (by omega)
  rw [show ((0 : Nat) : Int) = 0 from rfl, show ((2 : Nat) : Int) = 2 from rfl, d1] at t1
  rw [show ((2 : Nat) : Int) = 2 from rfl, d2] at t2
  have b0 : bt ((ownB l h nm).extract 4 (ownB l h nm).size) 0 = nm.size := (bt_extract (ownB l h nm) 4 0 (by omega)).trans b4
  have e1 : ((ownB l h nm).extract 4 (ownB l h nm).size).extract 1 ((nm.size : Int) + 1).toNat = nm := by
    rw [show ((nm.size : Int) + 1).toNat = ((ownB l h nm).extract 4 (ownB l h nm).size).size by rw [hr]; omega, extract_extract _ 4 1 (by omega)]
    exact x5
  have e2 : (((ownB l h nm).extract 4 (ownB l h nm).size).extract ((nm.size : Int) + 1).toNat (nm.size + 1)).toList = [] := by
    rw [ByteArray.toList_eq]
    apply List.eq_nil_of_length_eq_zero
    rw [Array.length_toList]
    show (((ownB l h nm).extract 4 (ownB l h nm).size).extract ((nm.size : Int) + 1).toNat (nm.size + 1)).size = 0
    rw [ByteArray.size_extract]
    omega
  rw [Q.bailiwickref14_TakeOwner.f, if_neg (by omega), if_pos (by omega), rtakeText_eq _ (by omega), hr, if_neg (by omega), b0, if_neg (by omega), Option.bind_some, t1, Option.bind_some, t2, Option.bind_some, e1, rown_eq id nm l h (by omega), Option.bind_some, if_pos rfl, e2, if_pos rfl, if_pos (decide_eq_true hk)]
/-- What the code reads. -/
theorem otake (id : Int) (s : ByteArray) (hz : s.size ≤ 2000000) : (∃ nm l h, xTakeOwner.f id s = some (id, nm, l, h, 0) ∧ ownOk id nm l h ∧ ownB l h nm = s) ∨ xTakeOwner.f id s = some (0, ⟨#[]⟩, 0, 0, 2) := by
  obtain ⟨i, nm, l, h, e, h1, h2, h3, h4⟩ := otake_some id s (by omega)
  rcases h3 with rfl | rfl
  · obtain ⟨rfl, hk, hs⟩ := h4 rfl
    exact .inl ⟨nm, l, h, h1, hk, hs⟩
  · right
    have h5 := h1
    unfold xTakeOwner.f at h5
    obtain ⟨a, ha, h5⟩ := Option.bind_eq_some_iff.1 h5
    obtain ⟨b, hb, h5⟩ := Option.bind_eq_some_iff.1 h5
    obtain ⟨c, hc, h5⟩ := Option.bind_eq_some_iff.1 h5
    rw [h1]
    split at h5
    · obtain ⟨p, hp, h5⟩ := Option.bind_eq_some_iff.1 h5
      split at h5
      · cases h5
      · exact h5.symm
    · exact h5.symm
end Go.Proofs.Ytapfidadgafpbaa.Pure
