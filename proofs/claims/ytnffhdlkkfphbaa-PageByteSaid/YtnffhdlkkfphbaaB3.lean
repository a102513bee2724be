/-
  Plain facts beneath the statements on pages: what is sealed is opened as it was; what is opened is sealed as it stood.
-/
import Derived.Test.YtnffhdlkkfphbaaB1
namespace Go.Proofs.Ytnffhdlkkfphbaa.Pure
set_option linter.unusedVariables false
set_option linter.unusedSimpArgs false
open Go.RowKit Go.Proofs.Ytnffhdlkkfphbaa.G Go.Proofs.YtnffhdlkkfphbaaW.PrintWords Go.Proofs.YtnffhdlkkfphbaaW.PrintLast

theorem sealL_length (kind : Nat) (text : List UInt8) (h : text.length ≤ 240) : (sealL kind text).length = 256 := by
  unfold sealL
  rw [List.length_append, bodyL_length kind text h]
  rfl
theorem byteAt_mk (l : List UInt8) (i : Nat) : byteAt ⟨l.toArray⟩ i = (l.getD i 0).toNat := rfl
theorem openT_seal (kind : Nat) (text : ByteArray) (h1 : 1 ≤ kind) (h2 : kind ≤ 15) (h3 : text.size ≤ 240) :
    openT ⟨(sealL kind text.data.toList).toArray⟩ = ((kind : Int), text, 0) := by
  have hl : text.data.toList.length = text.size := rfl
  have hb := bodyL_length kind text.data.toList h3
  have b0 : byteAt ⟨(sealL kind text.data.toList).toArray⟩ 0 = kind := by
    rw [byteAt_mk]
    show (UInt8.ofNat kind).toNat = kind
    rw [UInt8.toNat_ofNat']
    omega
  have b1 : byteAt ⟨(sealL kind text.data.toList).toArray⟩ 1 = text.size := by
    rw [byteAt_mk]
    show (UInt8.ofNat text.data.toList.length).toNat = text.size
    rw [UInt8.toNat_ofNat', hl]
    omega
  have hx : ((ByteArray.mk (sealL kind text.data.toList).toArray).extract 0 252).data.toList = bodyL kind text.data.toList := by
    rw [ByteArray.data_extract, Array.toList_extract, List.extract_eq_take_drop, List.drop_zero]
    show List.take 252 (sealL kind text.data.toList) = _
    unfold sealL
    rw [List.take_append_of_le_length (by omega), List.take_of_length_le (by omega)]
  have hn : n4 ⟨(sealL kind text.data.toList).toArray⟩ = adl (bodyL kind text.data.toList) := by
    have ha := adl_lt (bodyL kind text.data.toList)
    have key : ∀ j, byteAt ⟨(sealL kind text.data.toList).toArray⟩ (252 + j) = ((be4 (adl (bodyL kind text.data.toList))).getD j 0).toNat := by
      intro j
      rw [byteAt_mk]
      unfold sealL
      rw [List.getD_eq_getElem?_getD, List.getD_eq_getElem?_getD, List.getElem?_append_right (by omega), hb, Nat.add_sub_cancel_left]
    unfold n4
    have k0 := key 0
    have k1 := key 1
    have k2 := key 2
    have k3 := key 3
    simp only [be4, List.getD_cons_zero, List.getD_cons_succ, UInt8.toNat_ofNat'] at k0 k1 k2 k3
    rw [show (252 : Nat) = 252 + 0 from rfl, k0, show (253 : Nat) = 252 + 1 from rfl, k1, show (254 : Nat) = 252 + 2 from rfl, k2, show (255 : Nat) = 252 + 3 from rfl, k3]
    generalize adl (bodyL kind text.data.toList) = n at ha
    omega
  have ht : textOf ⟨(sealL kind text.data.toList).toArray⟩ = text := by
    unfold textOf
    rw [b1, Nat.min_eq_left (by omega)]
    apply ByteArray.ext
    apply Array.ext'
    rw [ByteArray.data_extract, Array.toList_extract, List.extract_eq_take_drop]
    show List.take (2 + text.size - 2) (List.drop 2 (sealL kind text.data.toList)) = _
    rw [Nat.add_sub_cancel_left]
    show List.take text.size (text.data.toList ++ List.replicate (250 - text.data.toList.length) 0 ++ be4 _) = _
    rw [List.append_assoc, List.take_append_of_le_length (by omega), List.take_of_length_le (by omega)]
  unfold openT
  rw [hx, hn, if_pos rfl, b0, ht, if_pos ⟨h1, h2, h3, rfl⟩]
/-- What is opened is sealed as it stood, or is nothing. -/
theorem open_seal (b : ByteArray) (hb : b.size ≤ 140737488351232) (k : Nat) (hk : 6 ≤ k) : ∃ (n : Nat) (t : ByteArray) (f : Int), page_Open.f k b = some ((n : Int), t, f) ∧ ((f = 0 ∧ page_Seal.f (n : Int) t = some (b, 0)) ∨ ((f == 0) = false ∧ page_Seal.f (n : Int) t = some (⟨#[]⟩, 1))) := by
  by_cases h : b.size = 256
  · rw [popen_eq b h k hk]
    unfold openT
    split
    · split
      · rename_i hc
        refine ⟨_, _, _, rfl, .inl ⟨rfl, ?_⟩⟩
        rw [seal_at, if_pos ⟨hc.1, hc.2.1, hc.2.2.1⟩]
        have e := hc.2.2.2
        rw [toList_mk, Lib.toList_data] at e
        rw [e, mk_data]
      · exact ⟨0, _, _, rfl, .inr ⟨rfl, rfl⟩⟩
    · exact ⟨0, _, _, rfl, .inr ⟨rfl, rfl⟩⟩
  · exact ⟨0, _, _, popen_other b h k, .inr ⟨rfl, rfl⟩⟩
end Go.Proofs.Ytnffhdlkkfphbaa.Pure
