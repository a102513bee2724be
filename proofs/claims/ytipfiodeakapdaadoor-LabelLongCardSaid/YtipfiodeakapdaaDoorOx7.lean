-- Written by a program of this session (gp.py), which drives the print with some lines turned. Not trusted: Lean checks it.
import Derived.Test.YtipfiodeakapdaaDoorOx0
import Derived.Test.YtipfiodeakapdaaDoorOx1
namespace Go.Proofs.YtipfiodeakapdaaDoor.O
open Go.RowKit Go.Proofs.YtipfiodeakapdaaDoorW.PrintWords Go.Proofs.YtipfiodeakapdaaDoorW.PrintLast Go.Proofs.YtipfiodeakapdaaDoorW.PrintMore
attribute [local go_sem] max2_int min2_int max_two min_two max_three min_three max_four min_four P.emod_u8 P.emod_u16 P.emod_u32
set_option linter.unusedVariables false
set_option linter.unusedSimpArgs false

/-! ### bailiwicklaw02_LabelLong: function 9 -/
mutual
def bailiwicklaw02_LabelLong.l0 : Nat → Int → Bool → Int → ByteArray → ByteArray → Int → Option (Bool)
  | 0, _, _, _, _, _, _ => none
  | k + 1, x1, x5, x6, x7, x8, x9 => if x9 < x6 then ((some (([(97 + (Int.tmod x1 26)) % 256] : List Int) : List Int)).bind fun y229 => (if x7.size + (strOfNums y229).size ≤ 9223372036854775807 then ((some (([195, (160 + (Int.tmod x1 32)) % 256] : List Int) : List Int)).bind fun y232 => (if x8.size + (strOfNums y232).size ≤ 9223372036854775807 then (bailiwicklaw02_LabelLong.l0 k x1 x5 x6 (x7 ++ (strOfNums y229)) (x8 ++ (strOfNums y232)) (wrap64 (x9 + 1))) else (none))) else (none))) else (if x6 ≥ 1 then (bailiwicklaw02_LabelLong.j1 k x5 x6 x7 x8 (decide (x6 ≤ 16))) else (bailiwicklaw02_LabelLong.j1 k x5 x6 x7 x8 false))
def bailiwicklaw02_LabelLong.j1 : Nat → Bool → Int → ByteArray → ByteArray → Bool → Option (Bool)
  | 0, _, _, _, _, _ => none
  | k + 1, x5, x6, x7, x8, x10 => if x5 = true then ((Go.Proofs.YtipfiodeakapdaaDoor.R.Runes.f x7).bind fun t235 => (if t235 = x6 then ((Go.Proofs.YtipfiodeakapdaaDoor.R.Runes.f x8).bind fun t236 => (if t236 = x6 then ((Go.Proofs.YtipfiodeakapdaaDoor.R.Right.f x7).bind fun t237 => (if (t237 == x10) = true then ((Go.Proofs.YtipfiodeakapdaaDoor.R.Right.f x8).bind fun t238 => (some (t238 == x10))) else (some false))) else (some false))) else (some false))) else (some false)
end
def bailiwicklaw02_LabelLong.f (k : Nat) (a0 : Int) (a1 : Int) : Option (Bool) := (bailiwicklaw02_examples.f k).bind fun t228 => (if t228 = true then (bailiwicklaw02_LabelLong.l0 k a1 t228 (wrap64 (Int.tmod a0 40)) (⟨#[]⟩ : ByteArray) (⟨#[]⟩ : ByteArray) 0) else (some false))
theorem bailiwicklaw02_LabelLong.mono_l : ∀ k, (∀ y0 y1 y2 y3 y4 y5, LeO (bailiwicklaw02_LabelLong.l0 k y0 y1 y2 y3 y4 y5) (bailiwicklaw02_LabelLong.l0 (k + 1) y0 y1 y2 y3 y4 y5)) ∧ (∀ y0 y1 y2 y3 y4, LeO (bailiwicklaw02_LabelLong.j1 k y0 y1 y2 y3 y4) (bailiwicklaw02_LabelLong.j1 (k + 1) y0 y1 y2 y3 y4))
  | 0 => ⟨fun _ _ _ _ _ _ r h => by simp [bailiwicklaw02_LabelLong.l0] at h, fun _ _ _ _ _ r h => by simp [bailiwicklaw02_LabelLong.j1] at h⟩
  | k + 1 => by
    obtain ⟨ih0, ih1⟩ := bailiwicklaw02_LabelLong.mono_l k
    refine ⟨?_, ?_⟩
    · intro y0 y1 y2 y3 y4 y5
      unfold bailiwicklaw02_LabelLong.l0
      repeat' first
      | (with_reducible exact ih0 _ _ _ _ _ _)
      | (with_reducible exact ih1 _ _ _ _ _)
      | (with_reducible exact bailiwicklaw02_examples.mono _)
      | (with_reducible exact LeO.refl _)
      | (with_reducible exact LeO.none _)
      | (with_reducible refine LeO.ite ?_ ?_)
      | (with_reducible refine LeO.bind ?_ (fun _ => ?_))
      | exact ih0 _ _ _ _ _ _
      | exact ih1 _ _ _ _ _
      | exact bailiwicklaw02_examples.mono _
      | exact LeO.none _
      | refine LeO.ite ?_ ?_
      | refine LeO.bind ?_ (fun _ => ?_)
    · intro y0 y1 y2 y3 y4
      unfold bailiwicklaw02_LabelLong.j1
      repeat' first
      | (with_reducible exact ih0 _ _ _ _ _ _)
      | (with_reducible exact ih1 _ _ _ _ _)
      | (with_reducible exact bailiwicklaw02_examples.mono _)
      | (with_reducible exact LeO.refl _)
      | (with_reducible exact LeO.none _)
      | (with_reducible refine LeO.ite ?_ ?_)
      | (with_reducible refine LeO.bind ?_ (fun _ => ?_))
      | exact ih0 _ _ _ _ _ _
      | exact ih1 _ _ _ _ _
      | exact bailiwicklaw02_examples.mono _
      | exact LeO.none _
      | refine LeO.ite ?_ ?_
      | refine LeO.bind ?_ (fun _ => ?_)
theorem bailiwicklaw02_LabelLong.mono : ∀ a0 a1 k, LeO (bailiwicklaw02_LabelLong.f k a0 a1) (bailiwicklaw02_LabelLong.f (k + 1) a0 a1) := by
  intro a0 a1 k
  obtain ⟨ih0, ih1⟩ := bailiwicklaw02_LabelLong.mono_l k
  unfold bailiwicklaw02_LabelLong.f
  repeat' first
      | (with_reducible exact ih0 _ _ _ _ _ _)
      | (with_reducible exact ih1 _ _ _ _ _)
      | (with_reducible exact bailiwicklaw02_examples.mono _)
      | (with_reducible exact LeO.refl _)
      | (with_reducible exact LeO.none _)
      | (with_reducible refine LeO.ite ?_ ?_)
      | (with_reducible refine LeO.bind ?_ (fun _ => ?_))
      | exact ih0 _ _ _ _ _ _
      | exact ih1 _ _ _ _ _
      | exact bailiwicklaw02_examples.mono _
      | exact LeO.none _
      | refine LeO.ite ?_ ?_
      | refine LeO.bind ?_ (fun _ => ?_)
set_option maxHeartbeats 8000000 in
set_option maxRecDepth 100000 in
theorem bailiwicklaw02_LabelLong.calls (k : Nat) (a0 : Int) (a1 : Int) (r : Bool) (w : World) (h : bailiwicklaw02_LabelLong.f k a0 a1 = some r) :
    Calls Tryd.prog 9 #[.int .u8 a0, .int .u8 a1] w fun e w' => e = .returned (.bool r) ∧ Below w.heap.size w w' := by
  have HB := Aside0.mk (Below.refl w.heap.size w)
  have H : ((bailiwicklaw02_examples.f k).bind fun t228 => (if t228 = true then (bailiwicklaw02_LabelLong.l0 k a1 t228 (wrap64 (Int.tmod a0 40)) (⟨#[]⟩ : ByteArray) (⟨#[]⟩ : ByteArray) 0) else (some false))) = some r := h
  clear h
  replace H := Option.bind_eq_some_iff.mp H
  obtain ⟨t228, A30, H⟩ := H
  replace H : (if t228 = true then (bailiwicklaw02_LabelLong.l0 k a1 t228 (wrap64 (Int.tmod a0 40)) (⟨#[]⟩ : ByteArray) (⟨#[]⟩ : ByteArray) 0) else (some false)) = some r := H
  have A3 := Aside0.mk A30
  clear A30
  by_cases c4 : t228 = true
  · subst c4
    have H1 : (bailiwicklaw02_LabelLong.l0 k a1 true (wrap64 (Int.tmod a0 40)) (⟨#[]⟩ : ByteArray) (⟨#[]⟩ : ByteArray) 0) = some r := by first | (rw [if_pos rfl] at H; exact H) | (rw [if_pos trivial] at H; exact H)
    clear H
    have H := H1
    clear H1
    have H' := Aside0.mk H
    clear H
    go_enter Tryd.func9, Tryd.ntmps9
    (try dsimp only [List.append])
    go_wp2_with (first | ((with_reducible refine gate_callee (f := 10) rfl ?_); refine goesL_ (some 11) rfl rfl Tryd.func10 (by kernel_rfl) rfl #[] rfl (by (try simp only [List.map_toArray, List.map_cons, List.map_nil]); first | done | rfl | (simp only [List.length_drop, List.length_take]; rfl)) ?_; (with_reducible refine (bailiwicklaw02_examples.calls k  true _ A3.out).mono ?_); rintro e w5 ⟨rfl, hb⟩; refine ⟨_, rfl, ?_⟩; have n0_ := Aside0.mk (below_step (by repeat (first | (with_reducible first | exact HB.out | apply below_alloc | apply pw_below_drewN | apply below_drew1) | exact HB.out)) hb); clear HB; have HB := n0_; clear n0_; (try clear hb); (try clear hb2); (try clear hk); (try clear hi)))
    go_loopg [7, 8, 9] k (fun kq v7 v8 v9 w' => ∃ (x7_1 : ByteArray) (x8_1 : ByteArray) (x9_1 : Int), v7 = .string x7_1 ∧ v8 = .string x8_1 ∧ v9 = .int .i64 x9_1 ∧ Aside0 (bailiwicklaw02_LabelLong.l0 kq a1 true (wrap64 (Int.tmod a0 40)) x7_1 x8_1 x9_1 = some r) ∧ Aside0 (kq ≤ k) ∧ Aside0 (Below w.heap.size w w'))
    case atStart => exact ⟨((⟨#[]⟩ : ByteArray)), ((⟨#[]⟩ : ByteArray)), (0), (by first | rfl | (simp; done) | (simp [*]; done)), (by first | rfl | (simp; done) | (simp [*]; done)), (by first | rfl | (simp; done) | (simp [*]; done)), H', ⟨Nat.le_refl _⟩, ⟨by repeat (first | (with_reducible first | exact HB.out | apply below_alloc | apply pw_below_drewN | apply below_drew1) | exact HB.out)⟩⟩
    case round =>
      clear H'
      try clear c1
      try clear p2
      try clear c4
      obtain ⟨x7_1, x8_1, x9_1, rfl, rfl, rfl, HA, HK1, HB⟩ := hrel
      cases gk with
      | zero => exact absurd HA.out (by simp [bailiwicklaw02_LabelLong.l0])
      | succ k1 =>
        have H := HA.out
        clear HA
        simp only [bailiwicklaw02_LabelLong.l0] at H
        by_cases c6 : x9_1 < (wrap64 (Int.tmod a0 40))
        · rw [if_pos c6] at H
          have c6b0 : decide (x9_1 < (wrap64 (Int.tmod a0 40))) = true := decide_eq_true c6
          clear c6
          obtain ⟨y229, hy229⟩ : ∃ y_ : List Int, y_ = (([(97 + (Int.tmod a1 26)) % 256] : List Int)) := ⟨_, rfl⟩
          replace H : (if x7_1.size + (strOfNums y229).size ≤ 9223372036854775807 then ((some (([195, (160 + (Int.tmod a1 32)) % 256] : List Int) : List Int)).bind fun y232 => (if x8_1.size + (strOfNums y232).size ≤ 9223372036854775807 then (bailiwicklaw02_LabelLong.l0 k1 a1 true (wrap64 (Int.tmod a0 40)) (x7_1 ++ (strOfNums y229)) (x8_1 ++ (strOfNums y232)) (wrap64 (x9_1 + 1))) else (none))) else (none)) = some r := by first | (rw [hy229]; with_reducible exact H) | (have H2_ := (Option.bind_some _ _).symm.trans H; rw [hy229]; with_reducible exact H2_) | (have H2_ := (Option.bind_some _ _).symm.trans H; with_reducible exact H2_) | with_reducible exact H | (rw [hy229]; exact H) | exact H
          have Ny229 := Aside0.mk hy229
          clear hy229
          by_cases c7 : x7_1.size + (strOfNums y229).size ≤ 9223372036854775807
          · rw [if_pos c7] at H
            have c7b0 := eq_true c7
            have c7b1 : decide (x7_1.size + (strOfNums y229).size ≤ 9223372036854775807) = true := decide_eq_true c7
            try have c7b2 : (9223372036854775807 < x7_1.size + (strOfNums y229).size) = False := eq_false (Nat.not_lt.2 c7)
            obtain ⟨y232, hy232⟩ : ∃ y_ : List Int, y_ = (([195, (160 + (Int.tmod a1 32)) % 256] : List Int)) := ⟨_, rfl⟩
            replace H : (if x8_1.size + (strOfNums y232).size ≤ 9223372036854775807 then (bailiwicklaw02_LabelLong.l0 k1 a1 true (wrap64 (Int.tmod a0 40)) (x7_1 ++ (strOfNums y229)) (x8_1 ++ (strOfNums y232)) (wrap64 (x9_1 + 1))) else (none)) = some r := by first | (rw [hy232]; with_reducible exact H) | (have H2_ := (Option.bind_some _ _).symm.trans H; rw [hy232]; with_reducible exact H2_) | (have H2_ := (Option.bind_some _ _).symm.trans H; with_reducible exact H2_) | with_reducible exact H | (rw [hy232]; exact H) | exact H
            have Ny232 := Aside0.mk hy232
            clear hy232
            by_cases c8 : x8_1.size + (strOfNums y232).size ≤ 9223372036854775807
            · rw [if_pos c8] at H
              have c8b0 := eq_true c8
              have c8b1 : decide (x8_1.size + (strOfNums y232).size ≤ 9223372036854775807) = true := decide_eq_true c8
              try have c8b2 : (9223372036854775807 < x8_1.size + (strOfNums y232).size) = False := eq_false (Nat.not_lt.2 c8)
              have H' := Aside0.mk H
              clear H
              go_wp2_with (first | ((with_reducible refine gate_dst (N := 26) rfl ?_); refine Kd.R_lit (Kd.int .u8) _ 5 ?hg (N := 26) ?hd (xs := ([(97 + (Int.tmod a1 26)) % 256] : List Int)) (inner := [.int .u8 ((97 + (Int.tmod a1 26)) % 256)]) (ok := fun _ => True) (okp := fun _ => True) ?hr ?hp (fun _ hk => hk) trivial (Below.refl _ _) (Nat.le_refl _) (by simp) ?_; (case hd => rfl); (case hg => rfl); (case hr => first | (go_simp; done) | (go_simp; rfl)); (case hp => exact (Reps.one (show Kd.M (Kd.int .u8) _ _ _ ((97 + (Int.tmod a1 26)) % 256) [.int .u8 ((97 + (Int.tmod a1 26)) % 256)] from rfl) (Reps.none _ _))); intro v230 w9 ho10 hb hg_ hnew_; clear hg_ hnew_; (first | rw [← Ny229.out] at ho10 | (simp only [Int.reduceToNat] at ho10; rw [← Ny229.out] at ho10)); have n0_ := Aside0.mk (Kd.R_lower ho10 (below_size (by repeat (first | (with_reducible first | exact HB.out | apply below_alloc | apply pw_below_drewN | apply below_drew1) | exact HB.out)))); have n1_ := Aside0.mk (below_step (by repeat (first | (with_reducible first | exact HB.out | apply below_alloc | apply pw_below_drewN | apply below_drew1) | exact HB.out)) hb); clear HB; have HO231 := n0_; have HB := n1_; clear n0_ n1_; clear hb ho10; have hcv11 := own_string (P := Tryd.prog) Tryd.underlying31 Tryd.underlying5 Tryd.underlying9 (Kd.own_of_R HO231.out)) | ((with_reducible refine gate_dst (N := 33) rfl ?_); refine Kd.R_lit (Kd.int .u8) _ 5 ?hg (N := 33) ?hd (xs := ([195, (160 + (Int.tmod a1 32)) % 256] : List Int)) (inner := [.int .u8 195, .int .u8 ((160 + (Int.tmod a1 32)) % 256)]) (ok := fun _ => True) (okp := fun _ => True) ?hr ?hp (fun _ hk => hk) trivial (Below.refl _ _) (Nat.le_refl _) (by simp) ?_; (case hd => rfl); (case hg => rfl); (case hr => first | (go_simp; done) | (go_simp; rfl)); (case hp => exact (Reps.one (show Kd.M (Kd.int .u8) _ _ _ 195 [.int .u8 195] from rfl) (Reps.one (show Kd.M (Kd.int .u8) _ _ _ ((160 + (Int.tmod a1 32)) % 256) [.int .u8 ((160 + (Int.tmod a1 32)) % 256)] from rfl) (Reps.none _ _)))); intro v233 w12 ho13 hb hg_ hnew_; clear hg_ hnew_; (first | rw [← Ny232.out] at ho13 | (simp only [Int.reduceToNat] at ho13; rw [← Ny232.out] at ho13)); have n0_ := Aside0.mk (Kd.R_elder' (by (with_reducible repeat (first | apply Kd.R_alloc | apply Kd.R_drewN | apply Kd.R_drew)); exact HO231.out) (Kd.R_base ho13) hb); have n1_ := Aside0.mk (Kd.R_lower (Kd.R_new' ho13 (Kd.R_lt (by (with_reducible repeat (first | apply Kd.R_alloc | apply Kd.R_drewN | apply Kd.R_drew)); exact HO231.out))) (below_size (by repeat (first | (with_reducible first | exact HB.out | apply below_alloc | apply pw_below_drewN | apply below_drew1) | exact HB.out)))); have n2_ := Aside0.mk (below_step (by repeat (first | (with_reducible first | exact HB.out | apply below_alloc | apply pw_below_drewN | apply below_drew1) | exact HB.out)) hb); clear HO231; clear HB; have HO231 := n0_; have HO234 := n1_; have HB := n2_; clear n0_ n1_ n2_; clear hb ho13; have hcv14 := own_string (P := Tryd.prog) Tryd.underlying31 Tryd.underlying5 Tryd.underlying9 (Kd.own_of_R HO234.out)))
              go_roundg k1
              case measure => have := HK1.out; omega
              case rel => exact ⟨(x7_1 ++ (strOfNums y229)), (x8_1 ++ (strOfNums y232)), (wrap64 (x9_1 + 1)), (by first | rfl | (simp; done) | (simp [*]; done)), (by first | rfl | (simp; done) | (simp [*]; done)), (by first | rfl | (simp; done) | (simp [*]; done)), H', ⟨by have := HK1.out; omega⟩, ⟨by repeat (first | (with_reducible first | exact HB.out | apply below_alloc | apply pw_below_drewN | apply below_drew1) | exact HB.out)⟩⟩
            · rw [if_neg c8] at H
              exact absurd H (by simp)
          · rw [if_neg c7] at H
            exact absurd H (by simp)
        · rw [if_neg c6] at H
          have c6b0 : decide (x9_1 < (wrap64 (Int.tmod a0 40))) = false := decide_eq_false c6
          clear c6
          have HC15 := Aside0.mk H
          clear H
          go_upto_region 12 with (fail)
          go_cut [10] (fun v10 wc => ∃ (kq : Nat) (x10_14 : Bool), v10 = .bool x10_14 ∧ Aside0 (bailiwicklaw02_LabelLong.j1 kq true (wrap64 (Int.tmod a0 40)) x7_1 x8_1 x10_14 = some r) ∧ Aside0 (kq ≤ k1) ∧ Aside0 (Below w.heap.size w wc))
          case first =>
            have H := HC15.out
            clear HC15
            by_cases c16 : (wrap64 (Int.tmod a0 40)) ≥ 1
            · rw [if_pos c16] at H
              have c16b0 : decide (1 ≤ (wrap64 (Int.tmod a0 40))) = true := decide_eq_true c16
              clear c16
              (first | rw [c16b0] | (simp only [i64_w, i32_w]; rw [c16b0]) | skip)
              have H' := Aside0.mk H
              clear H
              go_wp2
              go_meet
              case rel => exact ⟨_, (decide ((wrap64 (Int.tmod a0 40)) ≤ 16)), (by first | rfl | (simp; done) | (simp [*]; done)), H', ⟨by have := HK1.out; first | omega | exact Nat.le_refl _⟩, ⟨by repeat (first | (with_reducible first | exact HB.out | apply below_alloc | apply pw_below_drewN | apply below_drew1) | exact HB.out)⟩⟩
            · rw [if_neg c16] at H
              have c16b0 : decide (1 ≤ (wrap64 (Int.tmod a0 40))) = false := decide_eq_false c16
              clear c16
              (first | rw [c16b0] | (simp only [i64_w, i32_w]; rw [c16b0]) | skip)
              have H' := Aside0.mk H
              clear H
              go_wp2
              go_meet
              case rel => exact ⟨_, (false), (by first | rfl | (simp; done) | (simp [*]; done)), H', ⟨by have := HK1.out; first | omega | exact Nat.le_refl _⟩, ⟨by repeat (first | (with_reducible first | exact HB.out | apply below_alloc | apply pw_below_drewN | apply below_drew1) | exact HB.out)⟩⟩
          case rest =>
            clear HC15
            try clear c1
            try clear hcv1
            try clear p2
            try clear c4
            try clear c6
            try clear c6b0
            try clear p6
            try clear c7
            try clear c7b0
            try clear c7b1
            try clear c7b2
            try clear c8
            try clear c8b0
            try clear c8b1
            try clear c8b2
            try clear c9
            try clear c10
            try clear hcv11
            try clear hcv14
            try clear c16
            try clear c16b0
            try clear p2
            obtain ⟨kq, x10_14, rfl, HA, HJ14, HB⟩ := hcut
            cases kq with
            | zero => exact absurd HA.out (by simp [bailiwicklaw02_LabelLong.j1])
            | succ kj14 =>
              have H := HA.out
              clear HA
              simp only [bailiwicklaw02_LabelLong.j1] at H
              by_cases c17 : true = true
              · clear c17
                have H1 : ((Go.Proofs.YtipfiodeakapdaaDoor.R.Runes.f x7_1).bind fun t235 => (if t235 = (wrap64 (Int.tmod a0 40)) then ((Go.Proofs.YtipfiodeakapdaaDoor.R.Runes.f x8_1).bind fun t236 => (if t236 = (wrap64 (Int.tmod a0 40)) then ((Go.Proofs.YtipfiodeakapdaaDoor.R.Right.f x7_1).bind fun t237 => (if (t237 == x10_14) = true then ((Go.Proofs.YtipfiodeakapdaaDoor.R.Right.f x8_1).bind fun t238 => (some (t238 == x10_14))) else (some false))) else (some false))) else (some false))) = some r := by first | (rw [if_pos rfl] at H; exact H) | (rw [if_pos trivial] at H; exact H)
                clear H
                have H := H1
                clear H1
                replace H := Option.bind_eq_some_iff.mp H
                obtain ⟨t235, A180, H⟩ := H
                replace H : (if t235 = (wrap64 (Int.tmod a0 40)) then ((Go.Proofs.YtipfiodeakapdaaDoor.R.Runes.f x8_1).bind fun t236 => (if t236 = (wrap64 (Int.tmod a0 40)) then ((Go.Proofs.YtipfiodeakapdaaDoor.R.Right.f x7_1).bind fun t237 => (if (t237 == x10_14) = true then ((Go.Proofs.YtipfiodeakapdaaDoor.R.Right.f x8_1).bind fun t238 => (some (t238 == x10_14))) else (some false))) else (some false))) else (some false)) = some r := H
                have A18 := Aside0.mk A180
                clear A180
                by_cases c19 : t235 = (wrap64 (Int.tmod a0 40))
                · rw [if_pos c19] at H
                  have c19b0 : (t235 == (wrap64 (Int.tmod a0 40))) = true := beq_iff_eq.mpr c19
                  have c19b1 : (t235 != (wrap64 (Int.tmod a0 40))) = false := bne_eq_false_iff_eq.mpr c19
                  clear c19
                  replace H := Option.bind_eq_some_iff.mp H
                  obtain ⟨t236, A200, H⟩ := H
                  replace H : (if t236 = (wrap64 (Int.tmod a0 40)) then ((Go.Proofs.YtipfiodeakapdaaDoor.R.Right.f x7_1).bind fun t237 => (if (t237 == x10_14) = true then ((Go.Proofs.YtipfiodeakapdaaDoor.R.Right.f x8_1).bind fun t238 => (some (t238 == x10_14))) else (some false))) else (some false)) = some r := H
                  have A20 := Aside0.mk A200
                  clear A200
                  by_cases c21 : t236 = (wrap64 (Int.tmod a0 40))
                  · rw [if_pos c21] at H
                    have c21b0 : (t236 == (wrap64 (Int.tmod a0 40))) = true := beq_iff_eq.mpr c21
                    have c21b1 : (t236 != (wrap64 (Int.tmod a0 40))) = false := bne_eq_false_iff_eq.mpr c21
                    clear c21
                    replace H := Option.bind_eq_some_iff.mp H
                    obtain ⟨t237, A220, H⟩ := H
                    replace H : (if (t237 == x10_14) = true then ((Go.Proofs.YtipfiodeakapdaaDoor.R.Right.f x8_1).bind fun t238 => (some (t238 == x10_14))) else (some false)) = some r := H
                    have A22 := Aside0.mk A220
                    clear A220
                    by_cases c23 : (t237 == x10_14) = true
                    · rw [if_pos c23] at H
                      have c23b0 : (t237 == x10_14) = true := c23
                      (try (have c23b1 : decide (t237 = x10_14) = true := by simpa using c23))
                      (try (have c23b2 : (t237 == x10_14) = true := by simpa using c23))
                      clear c23
                      replace H := Option.bind_eq_some_iff.mp H
                      obtain ⟨t238, A240, H⟩ := H
                      replace H : (some (t238 == x10_14)) = some r := H
                      have A24 := Aside0.mk A240
                      clear A240
                      obtain rfl := Option.some.inj H
                      go_wp2_with (first | (go_at_call 13; (with_reducible refine (Go.Proofs.YtipfiodeakapdaaDoor.R.Runes.calls x7_1 t235 _ A18.out).mono ?_); rintro e w25 ⟨rfl, hb⟩; have n0_ := Aside0.mk (below_step (by repeat (first | (with_reducible first | exact HB.out | apply below_alloc | apply pw_below_drewN | apply below_drew1) | exact HB.out)) hb); clear HB; have HB := n0_; clear n0_; (try clear hb); (try clear hb2); (try clear hk); (try clear hi)) | (go_at_call 13; (with_reducible refine (Go.Proofs.YtipfiodeakapdaaDoor.R.Runes.calls x8_1 t236 _ A20.out).mono ?_); rintro e w26 ⟨rfl, hb⟩; have n0_ := Aside0.mk (below_step (by repeat (first | (with_reducible first | exact HB.out | apply below_alloc | apply pw_below_drewN | apply below_drew1) | exact HB.out)) hb); clear HB; have HB := n0_; clear n0_; (try clear hb); (try clear hb2); (try clear hk); (try clear hi)) | (go_at_call 15; (with_reducible refine (Go.Proofs.YtipfiodeakapdaaDoor.R.Right.calls x7_1 t237 _ A22.out).mono ?_); rintro e w27 ⟨rfl, hb⟩; have n0_ := Aside0.mk (below_step (by repeat (first | (with_reducible first | exact HB.out | apply below_alloc | apply pw_below_drewN | apply below_drew1) | exact HB.out)) hb); clear HB; have HB := n0_; clear n0_; (try clear hb); (try clear hb2); (try clear hk); (try clear hi)) | (go_at_call 15; (with_reducible refine (Go.Proofs.YtipfiodeakapdaaDoor.R.Right.calls x8_1 t238 _ A24.out).mono ?_); rintro e w28 ⟨rfl, hb⟩; have n0_ := Aside0.mk (below_step (by repeat (first | (with_reducible first | exact HB.out | apply below_alloc | apply pw_below_drewN | apply below_drew1) | exact HB.out)) hb); clear HB; have HB := n0_; clear n0_; (try clear hb); (try clear hb2); (try clear hk); (try clear hi)))
                      go_ret
                      exact ⟨by first | rfl | (simp [errW_none, errW_some] <;> rfl) | (simp [*, errW_none, errW_some] <;> rfl), by repeat (first | (with_reducible first | exact HB.out | apply below_alloc | apply pw_below_drewN | apply below_drew1) | exact HB.out)⟩
                    · rw [if_neg c23] at H
                      have c23b0 : (t237 == x10_14) = false := by simpa using c23
                      (try (have c23b1 : decide (t237 = x10_14) = false := by simpa using c23))
                      (try (have c23b2 : (t237 == x10_14) = false := by simpa using c23))
                      (try (have c23b3 : ¬ (t237 = x10_14) := by simpa using c23))
                      clear c23
                      obtain rfl := Option.some.inj H
                      go_wp2_with (first | (go_at_call 13; (with_reducible refine (Go.Proofs.YtipfiodeakapdaaDoor.R.Runes.calls x7_1 t235 _ A18.out).mono ?_); rintro e w29 ⟨rfl, hb⟩; have n0_ := Aside0.mk (below_step (by repeat (first | (with_reducible first | exact HB.out | apply below_alloc | apply pw_below_drewN | apply below_drew1) | exact HB.out)) hb); clear HB; have HB := n0_; clear n0_; (try clear hb); (try clear hb2); (try clear hk); (try clear hi)) | (go_at_call 13; (with_reducible refine (Go.Proofs.YtipfiodeakapdaaDoor.R.Runes.calls x8_1 t236 _ A20.out).mono ?_); rintro e w30 ⟨rfl, hb⟩; have n0_ := Aside0.mk (below_step (by repeat (first | (with_reducible first | exact HB.out | apply below_alloc | apply pw_below_drewN | apply below_drew1) | exact HB.out)) hb); clear HB; have HB := n0_; clear n0_; (try clear hb); (try clear hb2); (try clear hk); (try clear hi)) | (go_at_call 15; (with_reducible refine (Go.Proofs.YtipfiodeakapdaaDoor.R.Right.calls x7_1 t237 _ A22.out).mono ?_); rintro e w31 ⟨rfl, hb⟩; have n0_ := Aside0.mk (below_step (by repeat (first | (with_reducible first | exact HB.out | apply below_alloc | apply pw_below_drewN | apply below_drew1) | exact HB.out)) hb); clear HB; have HB := n0_; clear n0_; (try clear hb); (try clear hb2); (try clear hk); (try clear hi)))
                      go_ret
                      exact ⟨by first | rfl | (simp [errW_none, errW_some] <;> rfl) | (simp [*, errW_none, errW_some] <;> rfl), by repeat (first | (with_reducible first | exact HB.out | apply below_alloc | apply pw_below_drewN | apply below_drew1) | exact HB.out)⟩
                  · rw [if_neg c21] at H
                    have c21b0 : (t236 == (wrap64 (Int.tmod a0 40))) = false := beq_eq_false_iff_ne.mpr c21
                    have c21b1 : (t236 != (wrap64 (Int.tmod a0 40))) = true := bne_iff_ne.mpr c21
                    obtain rfl := Option.some.inj H
                    go_wp2_with (first | (go_at_call 13; (with_reducible refine (Go.Proofs.YtipfiodeakapdaaDoor.R.Runes.calls x7_1 t235 _ A18.out).mono ?_); rintro e w32 ⟨rfl, hb⟩; have n0_ := Aside0.mk (below_step (by repeat (first | (with_reducible first | exact HB.out | apply below_alloc | apply pw_below_drewN | apply below_drew1) | exact HB.out)) hb); clear HB; have HB := n0_; clear n0_; (try clear hb); (try clear hb2); (try clear hk); (try clear hi)) | (go_at_call 13; (with_reducible refine (Go.Proofs.YtipfiodeakapdaaDoor.R.Runes.calls x8_1 t236 _ A20.out).mono ?_); rintro e w33 ⟨rfl, hb⟩; have n0_ := Aside0.mk (below_step (by repeat (first | (with_reducible first | exact HB.out | apply below_alloc | apply pw_below_drewN | apply below_drew1) | exact HB.out)) hb); clear HB; have HB := n0_; clear n0_; (try clear hb); (try clear hb2); (try clear hk); (try clear hi)))
                    go_ret
                    exact ⟨by first | rfl | (simp [errW_none, errW_some] <;> rfl) | (simp [*, errW_none, errW_some] <;> rfl), by repeat (first | (with_reducible first | exact HB.out | apply below_alloc | apply pw_below_drewN | apply below_drew1) | exact HB.out)⟩
                · rw [if_neg c19] at H
                  have c19b0 : (t235 == (wrap64 (Int.tmod a0 40))) = false := beq_eq_false_iff_ne.mpr c19
                  have c19b1 : (t235 != (wrap64 (Int.tmod a0 40))) = true := bne_iff_ne.mpr c19
                  obtain rfl := Option.some.inj H
                  go_wp2_with (first | (go_at_call 13; (with_reducible refine (Go.Proofs.YtipfiodeakapdaaDoor.R.Runes.calls x7_1 t235 _ A18.out).mono ?_); rintro e w34 ⟨rfl, hb⟩; have n0_ := Aside0.mk (below_step (by repeat (first | (with_reducible first | exact HB.out | apply below_alloc | apply pw_below_drewN | apply below_drew1) | exact HB.out)) hb); clear HB; have HB := n0_; clear n0_; (try clear hb); (try clear hb2); (try clear hk); (try clear hi)))
                  go_ret
                  exact ⟨by first | rfl | (simp [errW_none, errW_some] <;> rfl) | (simp [*, errW_none, errW_some] <;> rfl), by repeat (first | (with_reducible first | exact HB.out | apply below_alloc | apply pw_below_drewN | apply below_drew1) | exact HB.out)⟩
              · exact absurd rfl c17
  · replace c4 := Bool.eq_false_iff.mpr c4
    subst c4
    have H1 : (some false) = some r := by rw [if_neg (show ¬ (false = true) by decide)] at H; exact H
    clear H
    have H := H1
    clear H1
    obtain rfl := Option.some.inj H
    go_enter Tryd.func9, Tryd.ntmps9
    (try dsimp only [List.append])
    go_wp2_with (first | ((with_reducible refine gate_callee (f := 10) rfl ?_); refine goesL_ (some 11) rfl rfl Tryd.func10 (by kernel_rfl) rfl #[] rfl (by (try simp only [List.map_toArray, List.map_cons, List.map_nil]); first | done | rfl | (simp only [List.length_drop, List.length_take]; rfl)) ?_; (with_reducible refine (bailiwicklaw02_examples.calls k  false _ A3.out).mono ?_); rintro e w35 ⟨rfl, hb⟩; refine ⟨_, rfl, ?_⟩; have n0_ := Aside0.mk (below_step (by repeat (first | (with_reducible first | exact HB.out | apply below_alloc | apply pw_below_drewN | apply below_drew1) | exact HB.out)) hb); clear HB; have HB := n0_; clear n0_; (try clear hb); (try clear hb2); (try clear hk); (try clear hi)))
    go_ret
    exact ⟨by first | rfl | (simp [errW_none, errW_some] <;> rfl) | (simp [*, errW_none, errW_some] <;> rfl), by repeat (first | (with_reducible first | exact HB.out | apply below_alloc | apply pw_below_drewN | apply below_drew1) | exact HB.out)⟩

/-- THE ONE PURE STATEMENT of bailiwicklaw02_LabelLong: yours. -/
def bailiwicklaw02_LabelLong.Pure : Prop := ∀ (a0 : Int) (a1 : Int), (Lit.int .u8 a0).wf = true → (Lit.int .u8 a1).wf = true → ∃ k, bailiwicklaw02_LabelLong.f k a0 a1 = some true
theorem bailiwicklaw02_LabelLong.walk (P : bailiwicklaw02_LabelLong.Pure) (a0 : Int) (a1 : Int) (w : World) (w0 : (Lit.int .u8 a0).wf = true) (w1 : (Lit.int .u8 a1).wf = true) :
    Calls Tryd.prog 9 #[.int .u8 a0, .int .u8 a1] w fun e w' => e = .returned (.bool true) ∧ Below w.heap.size w w' := by
  obtain ⟨k, h⟩ := P a0 a1 w0 w1
  refine (bailiwicklaw02_LabelLong.calls k a0 a1 true w h).mono ?_
  rintro e w' ⟨rfl, hd⟩
  exact ⟨rfl, hd⟩

end Go.Proofs.YtipfiodeakapdaaDoor.O
