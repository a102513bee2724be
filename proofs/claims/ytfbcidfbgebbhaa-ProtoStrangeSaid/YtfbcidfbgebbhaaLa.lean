/-
  The runes of a text, a label's spelling, and the walks of label.Runes and label.Right.
-/
import Derived.Test.YtfbcidfbgebbhaaQx1
import Derived.Lib.Hide
import Derived.WalkKit
import Derived.WalkSpells
import Derived.WalkLawsBesides
import Derived.RegionTactic
import Derived.ChangeAlike
import Derived.BigRegion
import Derived.Handy
import Derived.Lib.SmallJoins
import Derived.Lib.OthersKept
import Derived.Laws.RangeAny
namespace Go.Proofs.Ytfbcidfbgebbhaa.R
set_option linter.unusedVariables false
set_option linter.unusedSimpArgs false
open Go.RowKit Go.Proofs.YtfbcidfbgebbhaaW.PrintWords Go.Proofs.YtfbcidfbgebbhaaW.PrintLast Go.Proofs.YtfbcidfbgebbhaaW.PrintMore
open Go.Lib (hid)

theorem iterPos_of {w : World} {k : Nat} {s : ByteArray} {p : Nat} (h : w.heap[k]? = some (.stringIter s p)) : w.iterPos k = p := by simp [World.iterPos, h]
theorem width_pos (s : ByteArray) (pos : Nat) (h : pos < s.size) : 1 ≤ (Utf8.decode s pos).2 := by
  by_cases ha : (s[pos]'h).toNat < 128
  · rw [decode_ascii s pos h ha]
    exact Nat.le_refl _
  · exact (decode_high s pos h (by omega)).2

/-! ### the runes -/
def rnF (s : ByteArray) : Nat → Nat → List Nat
  | 0, _ => []
  | k + 1, p => if p < s.size then (Utf8.decode s p).1 :: rnF s k (p + (Utf8.decode s p).2) else []
def rns (s : ByteArray) : List Nat := rnF s s.size 0
theorem rnF_end (s : ByteArray) (k p : Nat) (h : ¬ p < s.size) : rnF s k p = [] := by
  cases k with
  | zero => rfl
  | succ k => simp [rnF, h]
theorem rnF_len (s : ByteArray) : ∀ k p, (rnF s k p).length ≤ k
  | 0, _ => Nat.le_refl _
  | k + 1, p => by
    unfold rnF
    split
    · have := rnF_len s k (p + (Utf8.decode s p).2)
      simp; omega
    · simp
def Runes.f (s : ByteArray) : Option Int := if s.size ≤ 140737488355328 then some ((rns s).length : Int) else none
set_option maxHeartbeats 1000000 in
theorem Runes.calls (s : ByteArray) (r : Int) (w : World) (h : Runes.f s = some r) :
    Calls Try.prog 101 #[.string s] w fun e w' => e = .returned (.int .i64 r) ∧ Below w.heap.size w w' := by
  unfold Runes.f at h
  split at h
  case isFalse => cases h
  rename_i hs
  have hr := Option.some.inj h
  clear h
  have HS := hid hr
  clear hr
  go_enter Try.func101, Try.ntmps101
  go_wp2_with fail
  go_loopw [3] (fun v wr => ∃ (pos k fuel : Nat), v = .int .i64 (k : Int) ∧ k ≤ s.size ∧ wr.heap[w.heap.size]? = some (.stringIter s pos) ∧ Below w.heap.size w wr ∧ Hid (s.size ≤ pos + fuel ∧ k + (rnF s fuel pos).length = (rns s).length)) (fun _ wr => s.size - wr.iterPos w.heap.size)
  case atStart => exact ⟨0, 0, s.size, rfl, Nat.zero_le _, World.iter_heap w s 0, (Below.refl _ _).alloc (Nat.le_refl _) _, by show s.size ≤ 0 + s.size; omega, by rw [Nat.zero_add]; rfl⟩
  case round =>
    obtain ⟨pos, k, fuel, rfl, hk, hit, hbw, HP⟩ := hrel
    have hpos0 := iterPos_of hit
    by_cases hp : pos < s.size
    · have hnx : ∀ ty, (Instr.next (.pointer (some ⟨w.heap.size, 0, none⟩)) true ty).run Try.prog wr = _ := fun ty => Lib.run_next_any_at wr w.heap.size s pos ty hit hp
      have hit2 := Lib.iterAt_heap wr w.heap.size s pos (pos + (Utf8.decode s pos).2) hit
      have hbw2 := Lib.below_iterAt hbw (k := w.heap.size) (Nat.le_refl _) s (pos + (Utf8.decode s pos).2)
      have hwd := width_pos s pos hp
      obtain ⟨f, rfl⟩ : ∃ f, fuel = f + 1 := ⟨fuel - 1, by have := HP.out.1; omega⟩
      have h1 := HP.out.2
      have h2 := HP.out.1
      rw [rnF, if_pos hp, List.length_cons] at h1
      have hle : (rns s).length ≤ s.size := rnF_len s s.size 0
      have hk1 : k + 1 ≤ s.size := by omega
      have HP2 : Hid (s.size ≤ (pos + (Utf8.decode s pos).2) + f ∧ (k + 1) + (rnF s f (pos + (Utf8.decode s pos).2)).length = (rns s).length) := ⟨by omega, by omega⟩
      clear h1 h2 HP hle
      go_wp2_with fail
      go_roundw
      case rel => exact ⟨pos + (Utf8.decode s pos).2, k + 1, f, by go_num, hk1, hit2, hbw2, HP2⟩
      case measure =>
        rw [iterPos_of hit2, hpos0]
        omega
    · have hnx : ∀ ty, (Instr.next (.pointer (some ⟨w.heap.size, 0, none⟩)) true ty).run Try.prog wr = _ := fun ty => Lib.run_next_end_at wr w.heap.size s pos ty hit hp
      have h1 := HP.out.2
      rw [rnF_end s fuel pos hp] at h1
      have h2 : (k : Int) = r := by rw [← HS.out]; simp at h1; omega
      clear h1 HP HS
      subst h2
      go_wp2_with fail
      go_ret
      exact ⟨rfl, hbw⟩

/-! ### a label's spelling -/
def plainB (r : Int) : Bool := decide ((97 ≤ r ∧ r ≤ 122) ∨ (65 ≤ r ∧ r ≤ 90) ∨ (48 ≤ r ∧ r ≤ 57) ∨ (192 ≤ r ∧ r ≤ 383))
theorem plain_eq (r : Int) : Q.label_plain.f 9 r = some (plainB r) := by
  unfold Q.label_plain.f plainB
  by_cases h1 : 97 ≤ r <;> by_cases h2 : r ≤ 122 <;> by_cases h3 : 65 ≤ r <;> by_cases h4 : r ≤ 90 <;> by_cases h5 : 48 ≤ r <;> by_cases h6 : r ≤ 57 <;> by_cases h7 : 192 ≤ r <;> first | omega | simp [Q.label_plain.j0, Q.label_plain.j1, h1, h2, h3, h4, h5, h6, h7] | skip
def goodB (r : Nat) (pos was : Nat) : Bool := plainB r || ((r == 45 && decide (0 < pos)) || (r == 46 && was != 46))
def okF (s : ByteArray) : Nat → Nat → Nat → Bool
  | 0, _, was => plainB was
  | k + 1, pos, was => if pos < s.size then goodB (Utf8.decode s pos).1 pos was && okF s k (pos + (Utf8.decode s pos).2) (Utf8.decode s pos).1 else plainB was
theorem okF_end (s : ByteArray) (k pos was : Nat) (h : ¬ pos < s.size) : okF s k pos was = plainB was := by
  cases k with
  | zero => rfl
  | succ k => simp [okF, h]
def rightB (s : ByteArray) : Bool := decide (s.size ≠ 0 ∧ s.size ≤ 32 ∧ (rns s).length ≤ 16) && okF s s.size 0 46
theorem okF_step (s : ByteArray) (k pos was : Nat) (h : pos < s.size) : okF s (k + 1) pos was = (goodB (Utf8.decode s pos).1 pos was && okF s k (pos + (Utf8.decode s pos).2) (Utf8.decode s pos).1) := by
  rw [okF, if_pos h]
set_option maxHeartbeats 4000000 in
set_option maxRecDepth 100000 in
theorem Right.yes (s : ByteArray) (w : World) (h0 : s.toList.isEmpty = false) (h1 : s.size ≤ 32) (h2 : (rns s).length ≤ 16) :
    Calls Try.prog 100 #[.string s] w fun e w' => e = .returned (.bool (okF s s.size 0 46)) ∧ Below w.heap.size w w' := by
  have HR := hid (fun W => Runes.calls s ((rns s).length : Int) W (by rw [Runes.f, if_pos (by omega)]))
  have HP := hid (fun r W => Q.label_plain.calls 9 r (plainB r) W (plain_eq r))
  have q1 : ¬ (32 < (s.size : Int)) := by omega
  have q2 : decide (((rns s).length : Int) > 16) = false := decide_eq_false (by omega)
  have q3 : ¬ (16 < ((rns s).length : Int)) := by omega
  obtain ⟨R, hR⟩ : ∃ R, okF s s.size 0 46 = R := ⟨_, rfl⟩
  rw [hR]
  replace hR := hid hR
  go_enter Try.func100, Try.ntmps100
  go_wp2_with fail
  refine (HR _).mono ?_
  rintro e w1 ⟨rfl, b1⟩
  replace b1 := hid b1
  go_wp2_with fail
  clear q1 q2 q3 h2
  go_loopw [3] (fun v wr => ∃ (pos fuel was : Nat), v = .int .i32 (was : Int) ∧ was ≤ 2147483647 ∧ wr.heap[w1.heap.size]? = some (.stringIter s pos) ∧ Below w1.heap.size w1 wr ∧ Hid (s.size ≤ pos + fuel ∧ okF s fuel pos was = R)) (fun _ wr => s.size - wr.iterPos w1.heap.size)
  case atStart => exact ⟨0, s.size, 46, rfl, by omega, World.iter_heap w1 s 0, (Below.refl _ _).alloc (Nat.le_refl _) _, by show s.size ≤ 0 + s.size; omega, hR⟩
  case round =>
    obtain ⟨pos, fuel, was, rfl, hwas, hit, hbw, HQ⟩ := hrel
    have hpos0 := iterPos_of hit
    by_cases hp : pos < s.size
    · have hnx : ∀ ty, (Instr.next (.pointer (some ⟨w1.heap.size, 0, none⟩)) true ty).run Try.prog wr = _ := fun ty => Lib.run_next_any_at wr w1.heap.size s pos ty hit hp
      have hit2 := hid (Lib.iterAt_heap wr w1.heap.size s pos (pos + (Utf8.decode s pos).2) hit)
      have hbw2 := hid (Lib.below_iterAt hbw (k := w1.heap.size) (Nat.le_refl _) s (pos + (Utf8.decode s pos).2))
      have hwd := width_pos s pos hp
      have hle := decode_le s pos
      obtain ⟨f, rfl⟩ : ∃ f, fuel = f + 1 := ⟨fuel - 1, by have := HQ.out.1; omega⟩
      have hQ2 := HQ.out.2
      rw [okF_step s f pos was hp] at hQ2
      have hQ1 : s.size ≤ pos + (Utf8.decode s pos).2 + f := by have := HQ.out.1; omega
      clear HQ hit hbw
      generalize (Utf8.decode s pos).1 = r at *
      generalize (Utf8.decode s pos).2 = n at *
      cases hpl : plainB (r : Int)
      · by_cases h45 : r = 45
        · subst h45
          by_cases hpz : 0 < pos
          · have hg : goodB 45 pos was = true := by simp [goodB, hpz]
            rw [hg, Bool.true_and] at hQ2
            replace hQ2 : Hid (s.size ≤ pos + n + f ∧ okF s f (pos + n) 45 = R) := ⟨hQ1, hQ2⟩
            have hpi : (0 : Int) < pos := by omega
            clear hg hQ1
            go_wp2_with fail
            refine (HP _ _).mono ?_
            rintro e w2 ⟨rfl, ⟨nd, rfl⟩⟩
            simp only [hpl]
            go_wp2_with fail
            go_roundw
            case rel => exact ⟨pos + n, f, 45, by go_num, by omega, hit2.out, hbw2.out.trans (Joins.below_draws _ _ nd), hQ2⟩
            case measure =>
              have e : ((wr.iterAt w1.heap.size s (pos + n)).drewN nd).iterPos w1.heap.size = pos + n := iterPos_of hit2.out
              rw [e, hpos0]
              omega
          · have hg : goodB 45 pos was = false := by simp [goodB, hpz, show plainB 45 = false from by decide]
            rw [hg, Bool.false_and] at hQ2
            replace hQ2 := hid hQ2
            have hpi : ¬ (0 : Int) < pos := by omega
            clear hg hQ1
            go_wp2_with fail
            refine (HP _ _).mono ?_
            rintro e w2 ⟨rfl, ⟨nd, rfl⟩⟩
            simp only [hpl]
            go_wp2_with fail
            go_ret
            have hR2 := hQ2.out
            subst hR2
            exact ⟨rfl, (b1.out.trans (hbw2.out.mono b1.out.size)).trans (Joins.below_draws _ _ nd)⟩
        · by_cases h46 : r = 46
          · subst h46
            by_cases hw46 : was = 46
            · have hg : goodB 46 pos was = false := by simp [goodB, hw46, show plainB 46 = false from by decide]
              rw [hg, Bool.false_and] at hQ2
              replace hQ2 := hid hQ2
              subst hw46
              clear hg hQ1
              go_wp2_with fail
              refine (HP _ _).mono ?_
              rintro e w2 ⟨rfl, ⟨nd, rfl⟩⟩
              simp only [hpl]
              go_wp2_with fail
              go_ret
              have hR2 := hQ2.out
              subst hR2
              exact ⟨rfl, (b1.out.trans (hbw2.out.mono b1.out.size)).trans (Joins.below_draws _ _ nd)⟩
            · have hg : goodB 46 pos was = true := by simp [goodB, hw46]
              rw [hg, Bool.true_and] at hQ2
              replace hQ2 : Hid (s.size ≤ pos + n + f ∧ okF s f (pos + n) 46 = R) := ⟨hQ1, hQ2⟩
              have hwi : ((was : Int) != 46) = true := by simp; omega
              have hwj : ¬ (was : Int) = 46 := by omega
              clear hg hQ1
              go_wp2_with fail
              refine (HP _ _).mono ?_
              rintro e w2 ⟨rfl, ⟨nd, rfl⟩⟩
              simp only [hpl]
              go_wp2_with fail
              go_roundw
              case rel => exact ⟨pos + n, f, 46, by go_num, by omega, hit2.out, hbw2.out.trans (Joins.below_draws _ _ nd), hQ2⟩
              case measure =>
                have e : ((wr.iterAt w1.heap.size s (pos + n)).drewN nd).iterPos w1.heap.size = pos + n := iterPos_of hit2.out
                rw [e, hpos0]
                omega
          · have hg : goodB r pos was = false := by simp [goodB, h45, h46, hpl]
            rw [hg, Bool.false_and] at hQ2
            replace hQ2 := hid hQ2
            have hri : ((r : Int) == 45) = false := by simp; omega
            have hrj : ((r : Int) == 46) = false := by simp; omega
            clear hg hQ1
            go_wp2_with fail
            refine (HP _ _).mono ?_
            rintro e w2 ⟨rfl, ⟨nd, rfl⟩⟩
            simp only [hpl]
            go_wp2_with fail
            go_ret
            have hR2 := hQ2.out
            subst hR2
            exact ⟨rfl, (b1.out.trans (hbw2.out.mono b1.out.size)).trans (Joins.below_draws _ _ nd)⟩
      · have hg : goodB r pos was = true := by simp [goodB, hpl]
        rw [hg, Bool.true_and] at hQ2
        replace hQ2 : Hid (s.size ≤ pos + n + f ∧ okF s f (pos + n) r = R) := ⟨hQ1, hQ2⟩
        clear hg hQ1
        go_wp2_with fail
        refine (HP _ _).mono ?_
        rintro e w2 ⟨rfl, ⟨nd, rfl⟩⟩
        simp only [hpl]
        go_wp2_with fail
        go_roundw
        case rel => exact ⟨pos + n, f, r, by go_num, by omega, hit2.out, hbw2.out.trans (Joins.below_draws _ _ nd), hQ2⟩
        case measure =>
          have e : ((wr.iterAt w1.heap.size s (pos + n)).drewN nd).iterPos w1.heap.size = pos + n := iterPos_of hit2.out
          rw [e, hpos0]
          omega
    · have hnx : ∀ ty, (Instr.next (.pointer (some ⟨w1.heap.size, 0, none⟩)) true ty).run Try.prog wr = _ := fun ty => Lib.run_next_end_at wr w1.heap.size s pos ty hit hp
      have hQ2 := HQ.out.2
      rw [okF_end s fuel pos was hp] at hQ2
      clear HQ
      go_wp2_with fail
      refine (HP _ _).mono ?_
      rintro e w2 ⟨rfl, ⟨nd, rfl⟩⟩
      go_wp2_with fail
      go_ret
      subst hQ2
      exact ⟨rfl, (b1.out.trans (hbw.mono b1.out.size)).trans (Joins.below_draws _ _ nd)⟩
theorem isEmpty_of (s : ByteArray) : s.toList.isEmpty = decide (s.size = 0) := by
  rw [ByteArray.toList_eq]
  have : s.size = s.data.toList.length := by simp
  rw [this]
  cases s.data.toList <;> simp
theorem Right.empty (s : ByteArray) (w : World) (h0 : s.toList.isEmpty = true) :
    Calls Try.prog 100 #[.string s] w fun e w' => e = .returned (.bool false) ∧ Below w.heap.size w w' := by
  go_enter Try.func100, Try.ntmps100
  go_wp2_with fail
  go_ret
  exact ⟨rfl, Below.refl _ _⟩
theorem Right.long (s : ByteArray) (w : World) (h0 : s.toList.isEmpty = false) (h1 : 32 < s.size) :
    Calls Try.prog 100 #[.string s] w fun e w' => e = .returned (.bool false) ∧ Below w.heap.size w w' := by
  have q1 : (32 < (s.size : Int)) := by omega
  go_enter Try.func100, Try.ntmps100
  go_wp2_with fail
  go_ret
  exact ⟨rfl, Below.refl _ _⟩
theorem Right.many (s : ByteArray) (w : World) (h0 : s.toList.isEmpty = false) (h1 : s.size ≤ 32) (h2 : 16 < (rns s).length) :
    Calls Try.prog 100 #[.string s] w fun e w' => e = .returned (.bool false) ∧ Below w.heap.size w w' := by
  have HR := hid (fun W => Runes.calls s ((rns s).length : Int) W (by rw [Runes.f, if_pos (by omega)]))
  have q1 : ¬ (32 < (s.size : Int)) := by omega
  have q3 : (16 < ((rns s).length : Int)) := by omega
  go_enter Try.func100, Try.ntmps100
  go_wp2_with fail
  refine (HR _).mono ?_
  rintro e w1 ⟨rfl, b1⟩
  go_wp2_with fail
  go_ret
  exact ⟨rfl, b1⟩
def Right.f (s : ByteArray) : Option Bool := if s.size ≤ 140737488355328 then some (rightB s) else none
theorem Right.calls (s : ByteArray) (r : Bool) (w : World) (h : Right.f s = some r) :
    Calls Try.prog 100 #[.string s] w fun e w' => e = .returned (.bool r) ∧ Below w.heap.size w w' := by
  unfold Right.f at h
  split at h
  case isFalse => cases h
  obtain rfl := Option.some.inj h
  clear h
  by_cases h0 : s.size = 0
  · rw [show rightB s = false by simp [rightB, h0]]
    exact Right.empty s w (by rw [isEmpty_of]; simpa using h0)
  · have e0 : s.toList.isEmpty = false := by rw [isEmpty_of]; simpa using h0
    by_cases h1 : s.size ≤ 32
    · by_cases h2 : (rns s).length ≤ 16
      · rw [show rightB s = okF s s.size 0 46 by simp [rightB, h0, h1, h2]]
        exact Right.yes s w e0 h1 h2
      · rw [show rightB s = false by simp [rightB, h2]]
        exact Right.many s w e0 h1 (by omega)
    · rw [show rightB s = false by simp [rightB, h1]]
      exact Right.long s w e0 (by omega)

end Go.Proofs.Ytfbcidfbgebbhaa.R
