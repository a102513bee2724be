/-
  What this session proved by hand beside the print, for the seat of the chapter on records: the reader's numbers; write at a slot.
-/
import Derived.Test.YtapfidadgafpbaaPx3
import Derived.Lib.Hide
import Derived.WalkKit
import Derived.WalkSpells
import Derived.WalkLawsBesides
import Derived.RegionTactic
import Derived.ChangeAlike
import Derived.BigRegion
import Derived.Handy
import Derived.Lib.SmallJoins
namespace Go.Proofs.Ytapfidadgafpbaa.G
set_option linter.unusedVariables false
set_option linter.unusedSimpArgs false
open Go.RowKit Go.Proofs.YtapfidadgafpbaaW.PrintWords Go.Proofs.YtapfidadgafpbaaW.PrintLast Go.Proofs.YtapfidadgafpbaaW.PrintMore
open Go.Lib (hid)

theorem emod_u8 (n : Int) : 0 ≤ n % 256 := by omega
theorem emod_u16 (n : Int) : 0 ≤ n % 65536 := by omega
theorem emod_u32 (n : Int) : 0 ≤ n % 4294967296 := by omega
theorem next {w w1 w2 : World} (h : Below w.heap.size w w1) (k : Below w1.heap.size w1 w2) : Below w.heap.size w w2 := below_then h h.size k

/-! ### the reader -/
/-- The reader's cells. -/
def IsRd (w : World) (g : Nat) (s : ByteArray) (bad : Bool) : Prop := w.heap[g]? = some (.cells #[.string s, .bool bad] 82 (0, 0))
theorem IsRd.c0 {w : World} {g : Nat} {s : ByteArray} {bad : Bool} (h : IsRd w g s bad) : w.cell? ⟨g, 0, none⟩ = some (.string s) := by unfold IsRd at h; simp [World.cell?, h]
theorem IsRd.c1 {w : World} {g : Nat} {s : ByteArray} {bad : Bool} (h : IsRd w g s bad) : w.cell? ⟨g, 1, none⟩ = some (.bool bad) := by unfold IsRd at h; simp [World.cell?, h]
theorem IsRd.f {w : World} {g : Nat} {s : ByteArray} {bad : Bool} (h : IsRd w g s bad) (j : Nat) : w.frozen? ⟨g, j, none⟩ = false := blk_frozen h j
theorem IsRd.lt {w : World} {g : Nat} {s : ByteArray} {bad : Bool} (h : IsRd w g s bad) : g < w.heap.size := blk_lt h
theorem IsRd.below {w w1 : World} {g : Nat} {s : ByteArray} {bad : Bool} (h : IsRd w g s bad) (hb : Below w.heap.size w w1) : IsRd w1 g s bad := (hb.block g h.lt).trans h
theorem IsRd.set0 {w : World} {g : Nat} {s : ByteArray} {bad : Bool} (h : IsRd w g s bad) (x : ByteArray) : IsRd (w.setCell ⟨g, 0, none⟩ (.string x)) g x bad := by
  unfold IsRd at *; simp [World.setCell, Array.getElem?_modify, h]
theorem IsRd.set1 {w : World} {g : Nat} {s : ByteArray} {bad : Bool} (h : IsRd w g s bad) (x : Bool) : IsRd (w.setCell ⟨g, 1, none⟩ (.bool x)) g s x := by
  unfold IsRd at *; simp [World.setCell, Array.getElem?_modify, h]
/-- What a reader leaves: its own block, and new ones. -/
def Touch (w w' : World) (g : Nat) : Prop := Below g w w' ∧ ∀ i, i < w.heap.size → i ≠ g → w'.heap[i]? = w.heap[i]?
theorem Touch.set {w w1 : World} {g : Nat} (h : Touch w w1 g) (j : Nat) (u : Value) : Touch w (w1.setCell ⟨g, j, none⟩ u) g :=
  ⟨h.1.setCell (Nat.le_refl _) u, fun i hi hn => (Below.heap_setCell _ _ _ _ hn).trans (h.2 i hi hn)⟩
theorem Touch.drewN (w : World) (g n : Nat) : Touch w (w.drewN n) g := ⟨⟨rfl, rfl, rfl, Nat.le_refl _, fun _ _ => rfl⟩, fun _ _ _ => rfl⟩

theorem reader_number.calls (k g : Nat) (s : ByteArray) (bad : Bool) (size n : Int) (rest : ByteArray) (e : Int) (w : World) (hI : IsRd w g s bad) (h : P.num_Take.f k s size = some (n, rest, e)) :
    Calls Try.prog 38 #[.pointer (some ⟨g, 0, none⟩), .int .i64 size] w fun e' w' => e' = .returned (.int .u64 n) ∧ IsRd w' g rest (bad || (e != 0)) ∧ Touch w w' g := by
  have HT := hid (fun W => P.num_Take.calls k s size n rest e W h)
  have hc0 := hI.c0
  have hc1 := hI.c1
  have hf0 := hI.f 0
  have hf1 := hI.f 1
  clear h
  cases bad
  · go_enter Try.func38, Try.ntmps38
    go_wp2_with fail
    refine (HT _).mono ?_
    rintro e1 w1 ⟨rfl, ⟨nd, rfl⟩⟩
    go_wp2_with fail
    go_ret
    exact ⟨rfl, IsRd.set0 (IsRd.set1 (show IsRd (w.drewN nd) g s false from hI) _) _, ((Touch.drewN w g nd).set 1 _).set 0 _⟩
  · go_enter Try.func38, Try.ntmps38
    go_wp2_with fail
    refine (HT _).mono ?_
    rintro e1 w1 ⟨rfl, ⟨nd, rfl⟩⟩
    go_wp2_with fail
    go_ret
    exact ⟨rfl, IsRd.set0 (IsRd.set1 (show IsRd (w.drewN nd) g s true from hI) _) _, ((Touch.drewN w g nd).set 1 _).set 0 _⟩
theorem reader_small.calls (k g : Nat) (s : ByteArray) (bad : Bool) (size n : Int) (rest : ByteArray) (e : Int) (w : World) (hI : IsRd w g s bad) (h : P.num_Take.f k s size = some (n, rest, e)) :
    Calls Try.prog 37 #[.pointer (some ⟨g, 0, none⟩), .int .i64 size] w fun e' w' => e' = .returned (.int .i64 (wrap64 n)) ∧ IsRd w' g rest (bad || (e != 0)) ∧ Touch w w' g := by
  have HT := hid (reader_number.calls k g s bad size n rest e w hI h)
  clear h
  go_enter Try.func37, Try.ntmps37
  go_wp2_with fail
  refine HT.mono ?_
  rintro e1 w1 ⟨rfl, h1, h2⟩
  go_wp2_with fail
  go_ret
  exact ⟨rfl, h1, h2⟩

abbrev slotV (i c e n : Int) : Value := .agg #[.int .i64 i, .int .i64 c, .int .i64 e, .int .u64 n]
abbrev capV (a b c d e f g h i : Int) (j : Bool) : Value := .agg #[.int .i64 a, .int .i64 b, .int .i64 c, .int .i64 d, .int .i64 e, .int .i64 f, .int .i64 g, .int .i64 h, .int .i64 i, .bool j]
theorem as_slot_cap (i c e n : Int) (W : World) : (Instr.typeAssert (.iface 77 (slotV i c e n)) 100 75 true).run Try.prog W = .ok (.tuple #[capV 0 0 0 0 0 0 0 0 0 false, .bool false]) W := by kernel_rfl
theorem as_slot_own (i c e n : Int) (W : World) : (Instr.typeAssert (.iface 77 (slotV i c e n)) 100 73 true).run Try.prog W = .ok (.tuple #[.agg #[.int .i64 0, .string ⟨#[]⟩, .int .i64 0, .int .i64 0], .bool false]) W := by kernel_rfl
theorem as_slot_slot (i c e n : Int) (W : World) : (Instr.typeAssert (.iface 77 (slotV i c e n)) 100 77 true).run Try.prog W = .ok (.tuple #[slotV i c e n, .bool true]) W := by kernel_rfl

theorem writeSlot.no (i c e n : Int) (w : World) (h : P.rec_slotRecord_right.f i c e n = some false) :
    Calls Try.prog 32 #[.iface 77 (slotV i c e n)] w fun e w' => e = .returned (.tuple #[.string ⟨#[]⟩, .int .i64 1]) ∧ Below w.heap.size w w' := by
  have HR := hid (fun W => P.rec_slotRecord_right.calls i c e n false W h)
  go_enter Try.func32, Try.ntmps32
  go_wp2_with fail
  refine (HR _).mono ?_
  rintro e w1 ⟨rfl, hb⟩
  go_wp2_with fail
  go_ret2
  exact ⟨rfl, hb⟩
theorem writeSlot.yes (k : Nat) (i c e n : Int) (s1 s2 s3 : ByteArray) (w : World) (h : P.rec_slotRecord_right.f i c e n = some true)
    (h1 : P.rec_writer_small.f k ⟨#[]⟩ c 3 = some s1) (h2 : P.rec_writer_small.f k s1 e 1 = some s2) (h3 : P.rec_writer_number.f k s2 n 8 = some s3) :
    Calls Try.prog 32 #[.iface 77 (slotV i c e n)] w fun e w' => e = .returned (.tuple #[.string s3, .int .i64 0]) ∧ Below w.heap.size w w' := by
  have HR := hid (fun W => P.rec_slotRecord_right.calls i c e n true W h)
  have H1 := hid (fun g W hI hB => P.rec_writer_small.calls k g _ _ _ _ w W hI hB h1)
  have H2 := hid (fun g W hI hB => P.rec_writer_small.calls k g _ _ _ _ w W hI hB h2)
  have H3 := hid (fun g W hI hB => P.rec_writer_number.calls k g _ _ _ _ w W hI hB h3)
  clear h h1 h2 h3
  have ha1 := as_slot_cap i c e n
  have ha2 := as_slot_own i c e n
  have ha3 := as_slot_slot i c e n
  go_enter Try.func32, Try.ntmps32
  go_wp2_with fail
  refine (HR _).mono ?_
  rintro e w1 ⟨rfl, hb⟩
  go_wp2_with fail
  have hX : ((w1.alloc (.cells #[.string ⟨#[]⟩] 103)).alloc (.cells #[.int .i64 i, .int .i64 c, .int .i64 e, .int .u64 n] 77)).heap[w1.heap.size + 1]? = some (.cells #[.int .i64 i, .int .i64 c, .int .i64 e, .int .u64 n] 77 (0, 0)) := by
    have h := blk_new (w1.alloc (.cells #[.string ⟨#[]⟩] 103)) (.cells #[.int .i64 i, .int .i64 c, .int .i64 e, .int .u64 n] 77)
    simpa using h
  refine (H1 _ _ ((P.IsS103.new w w1 _ hb).alloc _) (below_alloc (below_alloc hb _) _)).mono ?_
  rintro e0 w2 ⟨rfl, hI2, hB2, hK2⟩
  have hX2 := hK2.blk hX (by omega) (by simp)
  have hc2 : w2.cell? ⟨w1.heap.size + 1, 2, none⟩ = some (.int .i64 e) := (blk_cell hX2 2).trans rfl
  have hf2 := blk_frozen hX2 2
  go_wp2_with fail
  refine (H2 _ _ hI2 hB2).mono ?_
  rintro e0 w3 ⟨rfl, hI3, hB3, hK3⟩
  have hX3 := hK3.blk hX2 (by omega) (by simp)
  have hc3 : w3.cell? ⟨w1.heap.size + 1, 3, none⟩ = some (.int .u64 n) := (blk_cell hX3 3).trans rfl
  have hf3 := blk_frozen hX3 3
  go_wp2_with fail
  refine (H3 _ _ hI3 hB3).mono ?_
  rintro e0 w4 ⟨rfl, hI4, hB4, hK4⟩
  have hc4 : w4.cell? ⟨w1.heap.size, 0, none⟩ = some (.string s3) := (blk_cell hI4.1 0).trans rfl
  have hf4 := blk_frozen hI4.1 0
  go_wp2_with fail
  go_ret2
  exact ⟨rfl, hB4⟩
theorem PutSlot.go (x : Value) (i c e n : Int) (r : ByteArray) (m : Int) (w : World) (h : ∀ W, Calls Try.prog 32 #[.iface 77 (slotV i c e n)] W fun e w' => e = .returned (.tuple #[.string r, .int .i64 m]) ∧ Below W.heap.size W w') :
    Calls Try.prog 14 #[slotV i c e n] w fun e w' => e = .returned (.tuple #[.string r, .int .i64 m]) ∧ Below w.heap.size w w' := by
  have H := hid h
  clear h
  go_enter Try.func14, Try.ntmps14
  go_wp2_with fail
  refine (H _).mono ?_
  rintro e w1 ⟨rfl, hb⟩
  go_wp2_with fail
  go_ret2
  exact ⟨rfl, next (below_alloc (Below.refl _ _) _) hb⟩
theorem again.go (x : Value) (s r : ByteArray) (m : Int) (w : World) (h : ∀ W, Calls Try.prog 32 #[x] W fun e w' => e = .returned (.tuple #[.string r, .int .i64 m]) ∧ Below W.heap.size W w') :
    Calls Try.prog 39 #[x, .string s] w fun e w' => e = .returned (.bool (decide (m = 0) && decide (r = s))) ∧ Below w.heap.size w w' := by
  have H := hid h
  clear h
  by_cases h1 : m = 0
  · by_cases h2 : r = s
    · subst h1 h2
      go_enter Try.func39, Try.ntmps39
      go_wp2_with fail
      refine (H _).mono ?_
      rintro e w1 ⟨rfl, hb⟩
      go_wp2_with fail
      go_ret
      exact ⟨by simp, hb⟩
    · have q : ¬ r.toList = s.toList := fun e => h2 (by rw [ByteArray.toList_eq, ByteArray.toList_eq] at e; cases r; cases s; simpa using Array.toList_inj.1 e)
      subst h1
      go_enter Try.func39, Try.ntmps39
      go_wp2_with fail
      refine (H _).mono ?_
      rintro e w1 ⟨rfl, hb⟩
      go_wp2_with fail
      go_ret
      exact ⟨by simp [h2, q], hb⟩
  · have q : (m == 0) = false := by simpa using h1
    have q1 : (m != 0) = true := by simpa using h1
    go_enter Try.func39, Try.ntmps39
    go_wp2_with fail
    refine (H _).mono ?_
    rintro e w1 ⟨rfl, hb⟩
    go_wp2_with fail
    go_ret
    exact ⟨by simp [h1], hb⟩

/-! ### the printed form -/
def write_slot.f (k : Nat) (i c e n : Int) : Option (ByteArray × Int) := (P.rec_slotRecord_right.f i c e n).bind fun t => if t = true then (P.rec_writer_small.f k ⟨#[]⟩ c 3).bind fun s1 => (P.rec_writer_small.f k s1 e 1).bind fun s2 => (P.rec_writer_number.f k s2 n 8).bind fun s3 => some (s3, 0) else some (⟨#[]⟩, 1)
theorem write_slot.calls (k : Nat) (i c e n : Int) (r : ByteArray) (m : Int) (w : World) (h : write_slot.f k i c e n = some (r, m)) :
    Calls Try.prog 32 #[.iface 77 (slotV i c e n)] w fun e w' => e = .returned (.tuple #[.string r, .int .i64 m]) ∧ Below w.heap.size w w' := by
  obtain ⟨t, ht, h⟩ := Option.bind_eq_some_iff.1 h
  cases t
  · cases h
    exact writeSlot.no i c e n w ht
  · rw [if_pos rfl] at h
    obtain ⟨s1, h1, h⟩ := Option.bind_eq_some_iff.1 h
    obtain ⟨s2, h2, h⟩ := Option.bind_eq_some_iff.1 h
    obtain ⟨s3, h3, h⟩ := Option.bind_eq_some_iff.1 h
    cases h
    exact writeSlot.yes k i c e n s1 s2 _ w ht h1 h2 h3
def rec_PutSlot.f := write_slot.f
theorem rec_PutSlot.calls (k : Nat) (i c e n : Int) (r : ByteArray) (m : Int) (w : World) (h : rec_PutSlot.f k i c e n = some (r, m)) :
    Calls Try.prog 14 #[slotV i c e n] w fun e w' => e = .returned (.tuple #[.string r, .int .i64 m]) ∧ Below w.heap.size w w' :=
  PutSlot.go .nilIface i c e n r m w fun W => write_slot.calls k i c e n r m W h

def rec_TakeSlot.f (k : Nat) (id : Int) (s : ByteArray) : Option (Int × Int × Int × Int × Int) :=
  (P.num_Take.f k s 3).bind fun a => (P.num_Take.f k a.2.1 1).bind fun b => (P.num_Take.f k b.2.1 8).bind fun c =>
    if a.2.2 = 0 ∧ b.2.2 = 0 ∧ c.2.2 = 0 then
      (write_slot.f k id (wrap64 a.1) (wrap64 b.1) c.1).bind fun p => if p.2 = 0 ∧ p.1 = s then some (id, wrap64 a.1, wrap64 b.1, c.1, 0) else some (0, 0, 0, 0, 2)
    else some (0, 0, 0, 0, 2)

theorem blk4 {W : World} {g : Nat} {t : TypeId} {a b c d : Value} (h : W.heap[g]? = some (.cells #[a, b, c, d] t (0, 0))) (a' b' c' d' : Value) :
    ((((W.setCell ⟨g, 0, none⟩ a').setCell ⟨g, 1, none⟩ b').setCell ⟨g, 2, none⟩ c').setCell ⟨g, 3, none⟩ d').heap[g]? = some (.cells #[a', b', c', d'] t (0, 0)) :=
  blk_put (blk_put (blk_put (blk_put h 0 a' rfl) 1 b' rfl) 2 c' rfl) 3 d' rfl
theorem bel4 {B : Nat} {w W : World} {g : Nat} (h : Below B w W) (hg : B ≤ g) (a' b' c' d' : Value) :
    Below B w ((((W.setCell ⟨g, 0, none⟩ a').setCell ⟨g, 1, none⟩ b').setCell ⟨g, 2, none⟩ c').setCell ⟨g, 3, none⟩ d') :=
  (((h.setCell hg a').setCell hg b').setCell hg c').setCell hg d'
theorem TakeSlot.go (k : Nat) (id : Int) (s : ByteArray) (n1 n2 n3 e1 e2 e3 : Int) (r1 r2 r3 : ByteArray) (bad : Bool) (w : World)
    (h1 : P.num_Take.f k s 3 = some (n1, r1, e1)) (h2 : P.num_Take.f k r1 1 = some (n2, r2, e2)) (h3 : P.num_Take.f k r2 8 = some (n3, r3, e3))
    (hbad : ((((false || (e1 != 0)) || (e2 != 0)) || (e3 != 0))) = bad) (ag : Bool)
    (hag : bad = false → ∀ W, Calls Try.prog 39 #[.iface 77 (slotV id (wrap64 n1) (wrap64 n2) n3), .string s] W fun e w' => e = .returned (.bool ag) ∧ Below W.heap.size W w')
    (x : Value) (m : Int) (hx : (bad = false → ag = true → x = slotV id (wrap64 n1) (wrap64 n2) n3 ∧ m = 0) ∧ (bad = false → ag = false → x = slotV 0 0 0 0 ∧ m = 2) ∧ (bad = true → x = slotV 0 0 0 0 ∧ m = 2)) :
    Calls Try.prog 16 #[.int .i64 id, .string s] w fun e w' => e = .returned (.tuple #[x, .int .i64 m]) ∧ Below w.heap.size w w' := by
  have H1 := hid (fun g W hI => reader_small.calls k g s false 3 n1 r1 e1 W hI h1)
  have H2 := hid (fun g W b hI => reader_small.calls k g r1 b 1 n2 r2 e2 W hI h2)
  have H3 := hid (fun g W b hI => reader_number.calls k g r2 b 8 n3 r3 e3 W hI h3)
  clear h1 h2 h3
  generalize wrap64 n1 = m1 at *
  generalize wrap64 n2 = m2 at *
  replace hag := hid hag
  replace hx := hid hx
  replace hbad := hid hbad
  go_enter Try.func16, Try.ntmps16
  go_wp2_with fail
  have hR0 : ((w.alloc (.cells #[.int .i64 0, .int .i64 0, .int .i64 0, .int .u64 0] 26)).alloc (.cells #[.string s, .bool false] 82)).heap[w.heap.size]? = some (.cells #[.int .i64 0, .int .i64 0, .int .i64 0, .int .u64 0] 26 (0, 0)) := by
    rw [Below.heap_alloc _ _ _ (by simp)]
    exact blk_new w _
  have hI0 : IsRd ((w.alloc (.cells #[.int .i64 0, .int .i64 0, .int .i64 0, .int .u64 0] 26)).alloc (.cells #[.string s, .bool false] 82)) (w.heap.size + 1) s false := by
    have h := blk_new (w.alloc (.cells #[.int .i64 0, .int .i64 0, .int .i64 0, .int .u64 0] 26)) (.cells #[.string s, .bool false] 82)
    unfold IsRd
    simpa using h
  have hB0 := below_alloc (below_alloc (Below.refl w.heap.size w) (.cells #[.int .i64 0, .int .i64 0, .int .i64 0, .int .u64 0] 26)) (.cells #[.string s, .bool false] 82)
  refine (H1 _ _ hI0).mono ?_
  rintro e0 w2 ⟨rfl, hI2, hT2⟩
  have hR2 := (hT2.2 _ (blk_lt hR0) (by omega)).trans hR0
  have hB2 := hB0.trans (hT2.1.mono (by omega))
  go_wp2_with fail
  refine (H2 _ _ _ hI2).mono ?_
  rintro e0 w3 ⟨rfl, hI3, hT3⟩
  have hR3 := (hT3.2 _ (blk_lt hR2) (by omega)).trans hR2
  have hB3 := hB2.trans (hT3.1.mono (by omega))
  go_wp2_with fail
  refine (H3 _ _ _ hI3).mono ?_
  rintro e0 w4 ⟨rfl, hI4, hT4⟩
  have hR4 := (hT4.2 _ (blk_lt hR3) (by omega)).trans hR3
  have hB4 := hB3.trans (hT4.1.mono (by omega))
  rw [hbad] at hI4
  clear hB0 hB2 hB3 hT2 hT3 hT4 hI0 hI2 hI3 hR0 hR2 hR3
  have hlt := hI4.lt
  have hc4 := (hI4.below (below_alloc (Below.refl w4.heap.size w4) (.cells #[.int .i64 id, .int .i64 m1, .int .i64 m2, .int .u64 n3] 26))).c1
  have hf4 := (hI4.below (below_alloc (Below.refl w4.heap.size w4) (.cells #[.int .i64 id, .int .i64 m1, .int .i64 m2, .int .u64 n3] 26))).f 1
  have hW : (w4.alloc (.cells #[.int .i64 id, .int .i64 m1, .int .i64 m2, .int .u64 n3] 26)).heap[w.heap.size]? = some (.cells #[.int .i64 0, .int .i64 0, .int .i64 0, .int .u64 0] 26 (0, 0)) := (Below.heap_alloc _ _ _ (by omega)).trans hR4
  have hX : (w4.alloc (.cells #[.int .i64 id, .int .i64 m1, .int .i64 m2, .int .u64 n3] 26)).heap[w4.heap.size]? = some (.cells #[.int .i64 id, .int .i64 m1, .int .i64 m2, .int .u64 n3] 26 (0, 0)) := blk_new _ _
  have hB5 := below_alloc hB4 (.cells #[.int .i64 id, .int .i64 m1, .int .i64 m2, .int .u64 n3] 26)
  cases bad
  · go_wp2_with fail
    refine (hag trivial _).mono ?_
    rintro e0 w5 ⟨rfl, hB6⟩
    have hW5 := (hB6.block _ (blk_lt hW)).trans hW
    have hX5 := (hB6.block _ (blk_lt hX)).trans hX
    have hB7 := hB5.trans (hB6.mono (by have := hB5.size; omega))
    have ka0 : w5.cell? ⟨w.heap.size, 0, none⟩ = some (.int .i64 0) := (blk_cell hW5 0).trans rfl
    have ka1 : w5.cell? ⟨w.heap.size, 1, none⟩ = some (.int .i64 0) := (blk_cell hW5 1).trans rfl
    have ka2 : w5.cell? ⟨w.heap.size, 2, none⟩ = some (.int .i64 0) := (blk_cell hW5 2).trans rfl
    have ka3 : w5.cell? ⟨w.heap.size, 3, none⟩ = some (.int .u64 0) := (blk_cell hW5 3).trans rfl
    have kf0 := blk_frozen hW5 0
    have kf1 := blk_frozen hW5 1
    have kf2 := blk_frozen hW5 2
    have kf3 := blk_frozen hW5 3
    have xa0 : w5.cell? ⟨w4.heap.size, 0, none⟩ = some (.int .i64 id) := (blk_cell hX5 0).trans rfl
    have xa1 : w5.cell? ⟨w4.heap.size, 1, none⟩ = some (.int .i64 m1) := (blk_cell hX5 1).trans rfl
    have xa2 : w5.cell? ⟨w4.heap.size, 2, none⟩ = some (.int .i64 m2) := (blk_cell hX5 2).trans rfl
    have xa3 : w5.cell? ⟨w4.heap.size, 3, none⟩ = some (.int .u64 n3) := (blk_cell hX5 3).trans rfl
    have hlo := hB4.size
    have hZ := hid (fun a b c d => blk4 hW5 a b c d)
    have hY := hid hB7
    clear hX5 hW hX hB6 hB5 hW5 hB7
    cases ag
    · go_wp2_with fail
      (try simp only [Exit.inBlock, Exit.then])
      refine bodyPost_ret (results_ct rfl _ _ w.heap.size 26 _ (0, 0) _ rfl (hZ _ _ _ _) Try.underlying26 rfl (by kernel_rfl)) rfl ?_
      obtain ⟨rfl, rfl⟩ := hx.out.2.1 (by first | rfl | trivial) (by first | rfl | trivial)
      exact ⟨rfl, bel4 hY (Nat.le_refl _) _ _ _ _⟩
    · go_wp2_with fail
      (try simp only [Exit.inBlock, Exit.then])
      refine bodyPost_ret (results_ct rfl _ _ w.heap.size 26 _ (0, 0) _ rfl (hZ _ _ _ _) Try.underlying26 rfl (by kernel_rfl)) rfl ?_
      obtain ⟨rfl, rfl⟩ := hx.out.1 (by first | rfl | trivial) (by first | rfl | trivial)
      exact ⟨rfl, bel4 hY (Nat.le_refl _) _ _ _ _⟩
  · have ka0 : (w4.alloc (.cells #[.int .i64 id, .int .i64 m1, .int .i64 m2, .int .u64 n3] 26)).cell? ⟨w.heap.size, 0, none⟩ = some (.int .i64 0) := (blk_cell hW 0).trans rfl
    have ka1 : (w4.alloc (.cells #[.int .i64 id, .int .i64 m1, .int .i64 m2, .int .u64 n3] 26)).cell? ⟨w.heap.size, 1, none⟩ = some (.int .i64 0) := (blk_cell hW 1).trans rfl
    have ka2 : (w4.alloc (.cells #[.int .i64 id, .int .i64 m1, .int .i64 m2, .int .u64 n3] 26)).cell? ⟨w.heap.size, 2, none⟩ = some (.int .i64 0) := (blk_cell hW 2).trans rfl
    have ka3 : (w4.alloc (.cells #[.int .i64 id, .int .i64 m1, .int .i64 m2, .int .u64 n3] 26)).cell? ⟨w.heap.size, 3, none⟩ = some (.int .u64 0) := (blk_cell hW 3).trans rfl
    have kf0 := blk_frozen hW 0
    have kf1 := blk_frozen hW 1
    have kf2 := blk_frozen hW 2
    have kf3 := blk_frozen hW 3
    have hZ := hid (fun a b c d => blk4 hW a b c d)
    have hY := hid hB5
    clear hW hB5 hag hbad
    go_wp2_with fail
    (try simp only [Exit.inBlock, Exit.then])
    refine bodyPost_ret (results_ct rfl _ _ w.heap.size 26 _ (0, 0) _ rfl (hZ _ _ _ _) Try.underlying26 rfl (by kernel_rfl)) rfl ?_
    obtain ⟨rfl, rfl⟩ := hx.out.2.2 (by first | rfl | trivial)
    exact ⟨rfl, bel4 hY (Nat.le_refl _) _ _ _ _⟩

end Go.Proofs.Ytapfidadgafpbaa.G
