/-
  The walk of label.Parts: strings.Split at one point, whatever the world holds besides.
-/
import Derived.Test.YtipfiodeakapdaaDoorPx1
import Derived.Test.YtipfiodeakapdaaDoorSh
import Derived.Lib.Hide
import Derived.WalkKit
import Derived.Handy
import Derived.Lib.SplitLaws
namespace Go.Proofs.YtipfiodeakapdaaDoor.R
set_option linter.unusedVariables false
set_option linter.unusedSimpArgs false
open Go.RowKit Go.Lib Go.Proofs.YtipfiodeakapdaaDoorW.PrintWords Go.Proofs.YtipfiodeakapdaaDoorW.PrintLast Go.Proofs.YtipfiodeakapdaaDoorW.PrintMore
theorem ob_len {k : Nat} {A : Option Addr} {n m c : Nat} (h : some k ≠ (Value.slice A n c).ownBlock) : some k ≠ (Value.slice A m c).ownBlock := by cases A <;> exact h
def dotB : ByteArray := ⟨#[46]⟩
def parts (s : ByteArray) : List ByteArray := Lib.splitB dotB 0 (Lib.countB s dotB) s
theorem parts_len (s : ByteArray) : (parts s).length = Lib.countB s dotB + 1 := Lib.splitB_all dotB (by decide) 0 _ s rfl
theorem parts_le (s : ByteArray) : (parts s).length ≤ s.size + 1 := by
  rw [parts_len]
  have := Lib.countB_le dotB (by decide) s.size s (Nat.le_refl _)
  omega
theorem index_dot (x : ByteArray) : Lib.indexB x dotB = Lib.indexByte x.data.toList 46 := by
  exact Lib.index_one _ _
theorem count_dot (x : ByteArray) : Lib.countB x dotB = Lib.countByte x.data.toList 46 := Lib.count_one _ _
theorem genSplit.calls (s : ByteArray) (w : World) (hs : s.size < 4294967281) :
    Calls Tryd.prog 30 #[.string s, .string dotB, .int .i64 0, .int .i64 (-1)] w fun e w' => e = .returned (.slice (some ⟨w.heap.size, 0, none⟩) (parts s).length (parts s).length) ∧ w' = w.alloc (.cells ((parts s).map Value.string).toArray 9) := by
  have hle := Lib.countB_le dotB (by decide) s.size s (Nat.le_refl _)
  have c := Any.strings_genSplit_core (P := Tryd.prog) (ρ := Tryd.lays146_ren) { Tryd.lays146 with } (by kernel_rfl) s dotB 0 (-1) (Lib.countB s dotB + 1) w hs (by decide) (Nat.zero_le _)
    (fun x cs hx => by rw [index_dot]; exact Any.strings_Index_one { Tryd.lays146 with } x 46 _) (by have c := Any.strings_Count_one { Tryd.lays146 with } s 46 w; rw [← count_dot] at c; exact c) (by decide) (by decide) (by rw [if_pos (by decide)]; omega)
  refine c.mono ?_
  rintro e w' ⟨he, hw⟩
  have e1 : Lib.splitB dotB 0 (Lib.countB s dotB + 1 - 1) s = parts s := by rw [Nat.add_sub_cancel]; rfl
  rw [e1] at he hw
  rw [he, hw, parts_len]
  exact ⟨rfl, by rw [show Lib.cellsOf (parts s) (Lib.countB s dotB + 1) = ((parts s).map Value.string).toArray by rw [← parts_len]; exact Lib.cellsOf_full _]; rfl⟩
theorem Split.calls (s : ByteArray) (w : World) (hs : s.size < 4294967281) :
    Calls Tryd.prog 27 #[.string s, .string dotB] w fun e w' => e = .returned (.slice (some ⟨w.heap.size, 0, none⟩) (parts s).length (parts s).length) ∧ w' = w.alloc (.cells ((parts s).map Value.string).toArray 9) := by
  have c := genSplit.calls s w hs
  go_enter Tryd.func27, Tryd.ntmps27
  go_wp2_with fail
  refine c.mono ?_
  rintro e w' ⟨rfl, rfl⟩
  go_wp2_with fail
  go_ret
  exact ⟨rfl, rfl⟩
theorem reps_map (l : List ByteArray) : Reps (fun x cs => cs = [Value.string x]) 1 l (l.map Value.string) := by
  refine ⟨by simp, fun j p hj => ?_⟩
  have hl : j < l.length := (List.getElem?_eq_some_iff.1 hj).1
  have e : l[j] = p := (List.getElem?_eq_some_iff.1 hj).2
  rw [Nat.mul_one, List.drop_eq_getElem_cons (by simpa using hl)]
  simp [e]
theorem row_of (w : World) (l : List ByteArray) (h0 : 0 < l.length) (h : l.length ≤ maxLen) : Kd.R Kd.string 9 (w.alloc (.cells (l.map Value.string).toArray 9)) w.heap.size (fun _ => True) (.slice (some ⟨w.heap.size, 0, none⟩) l.length l.length) l := by
  refine ⟨fun _ _ => trivial, l.map Value.string, ⟨by show _ = l.length * 1; simp, .inr ⟨w.heap.size, l.length, (l.map Value.string).toArray, rfl, Nat.le_refl _, heap_alloc_new w _, Nat.le_refl _, h, by show _ = l.length * 1; simp, ?_⟩⟩, reps_map l⟩
  show List.take (l.length * 1) (l.map Value.string) = _
  rw [Nat.mul_one, List.take_of_length_le (by simp)]
def Parts.f (s : ByteArray) : Option (List ByteArray) := if s.size ≤ 4000000000 then some (parts s) else none
theorem Parts.calls (s : ByteArray) (r : List ByteArray) (w : World) (h : Parts.f s = some r) :
    Calls Tryd.prog 18 #[.string s] w fun e w' => ∃ v0_ : Value, e = .returned (v0_) ∧ Kd.R Kd.string 9 w' w.heap.size (fun _ => True) v0_ r ∧ Below w.heap.size w w' := by
  unfold Parts.f at h
  split at h
  case isFalse => cases h
  rename_i hs
  obtain rfl := Option.some.inj h
  clear h
  have c := Split.calls s w (by omega)
  have h1 := row_of w (parts s) (by rw [parts_len]; omega) (by have e : Go.maxLen = 9223372036854775807 := rfl; have := parts_le s; rw [e]; omega)
  generalize parts s = ps at *
  go_enter Tryd.func18, Tryd.ntmps18
  go_wp2_with fail
  refine c.mono ?_
  rintro e w' ⟨rfl, rfl⟩
  go_wp2_with fail
  go_ret
  exact ⟨_, rfl, h1, (Below.refl _ _).alloc (Nat.le_refl _) _⟩
end Go.Proofs.YtipfiodeakapdaaDoor.R
