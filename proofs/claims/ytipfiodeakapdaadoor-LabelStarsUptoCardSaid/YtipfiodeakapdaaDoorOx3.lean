-- Written by a program of this session (gp.py), which drives the print with some lines turned. Not trusted: Lean checks it.
import Derived.Test.YtipfiodeakapdaaDoorOx0
import Derived.Test.YtipfiodeakapdaaDoorOx1
namespace Go.Proofs.YtipfiodeakapdaaDoor.O
open Go.RowKit Go.Proofs.YtipfiodeakapdaaDoorW.PrintWords Go.Proofs.YtipfiodeakapdaaDoorW.PrintLast Go.Proofs.YtipfiodeakapdaaDoorW.PrintMore
attribute [local go_sem] max2_int min2_int max_two min_two max_three min_three max_four min_four P.emod_u8 P.emod_u16 P.emod_u32
set_option linter.unusedVariables false
set_option linter.unusedSimpArgs false

/-! ### bailiwickref02_Runes: function 14 -/
def bailiwickref02_Runes.f (a0 : ByteArray) : Option (Int) := (Go.Proofs.YtipfiodeakapdaaDoor.R.runes.f a0).bind fun t138 => (some (t138.length : Int))
set_option maxHeartbeats 8000000 in
set_option maxRecDepth 100000 in
theorem bailiwickref02_Runes.calls (a0 : ByteArray) (r : Int) (w : World) (h : bailiwickref02_Runes.f a0 = some r) :
    Calls Tryd.prog 14 #[.string a0] w fun e w' => e = .returned (.int .i64 r) ∧ Below w.heap.size w w' := by
  have HB := Aside0.mk (Below.refl w.heap.size w)
  have H : ((Go.Proofs.YtipfiodeakapdaaDoor.R.runes.f a0).bind fun t138 => (some (t138.length : Int))) = some r := h
  clear h
  replace H := Option.bind_eq_some_iff.mp H
  obtain ⟨t138, A20, H⟩ := H
  replace H : (some (t138.length : Int)) = some r := H
  have A2 := Aside0.mk A20
  clear A20
  obtain rfl := Option.some.inj H
  go_enter Tryd.func14, Tryd.ntmps14
  (try dsimp only [List.append])
  go_wp2_with (first | ((with_reducible refine gate_callee (f := 24) rfl ?_); refine goesL_ (some 4) rfl rfl Tryd.func24 (by kernel_rfl) rfl #[.string a0] rfl (by (try simp only [List.map_toArray, List.map_cons, List.map_nil]); first | done | rfl | (simp only [List.length_drop, List.length_take]; rfl)) ?_; (with_reducible refine (Go.Proofs.YtipfiodeakapdaaDoor.R.runes.calls a0 t138 _ A2.out).mono ?_); rintro e w3 ⟨v139, rfl, ho0, hb⟩; refine ⟨_, rfl, ?_⟩; have n0_ := Aside0.mk (Kd.R_lower ho0 (below_size (by repeat (first | (with_reducible first | exact HB.out | apply below_alloc | apply pw_below_drewN | apply below_drew1) | exact HB.out)))); have n1_ := Aside0.mk (below_step (by repeat (first | (with_reducible first | exact HB.out | apply below_alloc | apply pw_below_drewN | apply below_drew1) | exact HB.out)) hb); clear HB; have HO140 := n0_; have HB := n1_; clear n0_ n1_; (try clear hb); (try clear hb2); (try clear hk); (try clear hi); (try clear ho0); obtain ⟨Ao4, co4, eo4⟩ := Kd.R_slice HO140.out; subst eo4))
  go_ret
  exact ⟨by first | rfl | (simp [errW_none, errW_some] <;> rfl) | (simp [*, errW_none, errW_some] <;> rfl), by repeat (first | (with_reducible first | exact HB.out | apply below_alloc | apply pw_below_drewN | apply below_drew1) | exact HB.out)⟩

-- NOT PRINTED: function 3 (bailiwicklaw02_LabelTells)

-- PROVED BY HAND: function 17 (bailiwicklaw02_words)

-- PROVED BY HAND: function 19 (bailiwickref02_Parts)

/-! ### bailiwickref02_Match: function 21 -/
mutual
def bailiwickref02_Match.j0 : Nat → List ByteArray → List ByteArray → Int → Option (Bool)
  | 0, _, _, _ => none
  | k + 1, x5, x6, x7 => if (x6.length : Int) = x7 then (bailiwickref02_Match.l0 k x5 x6 x7 0) else (some false)
def bailiwickref02_Match.l0 : Nat → List ByteArray → List ByteArray → Int → Int → Option (Bool)
  | 0, _, _, _, _ => none
  | k + 1, x5, x6, x7, x8 => if x8 < x7 then (if 0 ≤ x8 then (if x8 < (x5.length : Int) then (if (rdOf ByteArray.empty x5 x8).toList = ([42] : List UInt8) then (bailiwickref02_Match.l0 k x5 x6 x7 (wrap64 (x8 + 1))) else (if x8 < (x6.length : Int) then (if (rdOf ByteArray.empty x5 x8).toList = (rdOf ByteArray.empty x6 x8).toList then (bailiwickref02_Match.l0 k x5 x6 x7 (wrap64 (x8 + 1))) else (some false)) else (none))) else (none)) else (none)) else (some true)
end
def bailiwickref02_Match.f (k : Nat) (a0 : ByteArray) (a1 : ByteArray) : Option (Bool) := (Go.Proofs.YtipfiodeakapdaaDoor.P.bailiwickref02_Parts.f k a0).bind fun t144 => ((Go.Proofs.YtipfiodeakapdaaDoor.P.bailiwickref02_Parts.f k a1).bind fun t147 => (if 0 ≤ (wrap64 ((t144.length : Int) - 1)) then (if (wrap64 ((t144.length : Int) - 1)) < (t144.length : Int) then (if (rdOf ByteArray.empty t144 (wrap64 ((t144.length : Int) - 1))).toList = ([42, 42] : List UInt8) then (if (t147.length : Int) < (t144.length : Int) then (some false) else (if (wrap64 ((t144.length : Int) - 1)) ≤ (t147.length : Int) then (bailiwickref02_Match.j0 k t144 (t147.take ((wrap64 ((t144.length : Int) - 1)) : Int).toNat) (wrap64 ((t144.length : Int) - 1))) else (none))) else (bailiwickref02_Match.j0 k t144 t147 (t144.length : Int))) else (none)) else (none)))
theorem bailiwickref02_Match.mono_l : ∀ k, (∀ y0 y1 y2, LeO (bailiwickref02_Match.j0 k y0 y1 y2) (bailiwickref02_Match.j0 (k + 1) y0 y1 y2)) ∧ (∀ y0 y1 y2 y3, LeO (bailiwickref02_Match.l0 k y0 y1 y2 y3) (bailiwickref02_Match.l0 (k + 1) y0 y1 y2 y3))
  | 0 => ⟨fun _ _ _ r h => by simp [bailiwickref02_Match.j0] at h, fun _ _ _ _ r h => by simp [bailiwickref02_Match.l0] at h⟩
  | k + 1 => by
    obtain ⟨ih0, ih1⟩ := bailiwickref02_Match.mono_l k
    refine ⟨?_, ?_⟩
    · intro y0 y1 y2
      unfold bailiwickref02_Match.j0
      repeat' first
      | (with_reducible exact ih0 _ _ _)
      | (with_reducible exact ih1 _ _ _ _)
      | (with_reducible exact Go.Proofs.YtipfiodeakapdaaDoor.P.bailiwickref02_Parts.mono _ _)
      | (with_reducible exact LeO.refl _)
      | (with_reducible exact LeO.none _)
      | (with_reducible refine LeO.ite ?_ ?_)
      | (with_reducible refine LeO.bind ?_ (fun _ => ?_))
      | exact ih0 _ _ _
      | exact ih1 _ _ _ _
      | exact Go.Proofs.YtipfiodeakapdaaDoor.P.bailiwickref02_Parts.mono _ _
      | exact LeO.none _
      | refine LeO.ite ?_ ?_
      | refine LeO.bind ?_ (fun _ => ?_)
    · intro y0 y1 y2 y3
      unfold bailiwickref02_Match.l0
      repeat' first
      | (with_reducible exact ih0 _ _ _)
      | (with_reducible exact ih1 _ _ _ _)
      | (with_reducible exact Go.Proofs.YtipfiodeakapdaaDoor.P.bailiwickref02_Parts.mono _ _)
      | (with_reducible exact LeO.refl _)
      | (with_reducible exact LeO.none _)
      | (with_reducible refine LeO.ite ?_ ?_)
      | (with_reducible refine LeO.bind ?_ (fun _ => ?_))
      | exact ih0 _ _ _
      | exact ih1 _ _ _ _
      | exact Go.Proofs.YtipfiodeakapdaaDoor.P.bailiwickref02_Parts.mono _ _
      | exact LeO.none _
      | refine LeO.ite ?_ ?_
      | refine LeO.bind ?_ (fun _ => ?_)
theorem bailiwickref02_Match.mono : ∀ a0 a1 k, LeO (bailiwickref02_Match.f k a0 a1) (bailiwickref02_Match.f (k + 1) a0 a1) := by
  intro a0 a1 k
  obtain ⟨ih0, ih1⟩ := bailiwickref02_Match.mono_l k
  unfold bailiwickref02_Match.f
  repeat' first
      | (with_reducible exact ih0 _ _ _)
      | (with_reducible exact ih1 _ _ _ _)
      | (with_reducible exact Go.Proofs.YtipfiodeakapdaaDoor.P.bailiwickref02_Parts.mono _ _)
      | (with_reducible exact LeO.refl _)
      | (with_reducible exact LeO.none _)
      | (with_reducible refine LeO.ite ?_ ?_)
      | (with_reducible refine LeO.bind ?_ (fun _ => ?_))
      | exact ih0 _ _ _
      | exact ih1 _ _ _ _
      | exact Go.Proofs.YtipfiodeakapdaaDoor.P.bailiwickref02_Parts.mono _ _
      | exact LeO.none _
      | refine LeO.ite ?_ ?_
      | refine LeO.bind ?_ (fun _ => ?_)
set_option maxHeartbeats 8000000 in
set_option maxRecDepth 100000 in
theorem bailiwickref02_Match.calls (k : Nat) (a0 : ByteArray) (a1 : ByteArray) (r : Bool) (w : World) (h : bailiwickref02_Match.f k a0 a1 = some r) :
    Calls Tryd.prog 21 #[.string a0, .string a1] w fun e w' => e = .returned (.bool r) ∧ Below w.heap.size w w' := by
  have HB := Aside0.mk (Below.refl w.heap.size w)
  have H : ((Go.Proofs.YtipfiodeakapdaaDoor.P.bailiwickref02_Parts.f k a0).bind fun t144 => ((Go.Proofs.YtipfiodeakapdaaDoor.P.bailiwickref02_Parts.f k a1).bind fun t147 => (if 0 ≤ (wrap64 ((t144.length : Int) - 1)) then (if (wrap64 ((t144.length : Int) - 1)) < (t144.length : Int) then (if (rdOf ByteArray.empty t144 (wrap64 ((t144.length : Int) - 1))).toList = ([42, 42] : List UInt8) then (if (t147.length : Int) < (t144.length : Int) then (some false) else (if (wrap64 ((t144.length : Int) - 1)) ≤ (t147.length : Int) then (bailiwickref02_Match.j0 k t144 (t147.take ((wrap64 ((t144.length : Int) - 1)) : Int).toNat) (wrap64 ((t144.length : Int) - 1))) else (none))) else (bailiwickref02_Match.j0 k t144 t147 (t144.length : Int))) else (none)) else (none)))) = some r := h
  clear h
  replace H := Option.bind_eq_some_iff.mp H
  obtain ⟨t144, A30, H⟩ := H
  replace H : ((Go.Proofs.YtipfiodeakapdaaDoor.P.bailiwickref02_Parts.f k a1).bind fun t147 => (if 0 ≤ (wrap64 ((t144.length : Int) - 1)) then (if (wrap64 ((t144.length : Int) - 1)) < (t144.length : Int) then (if (rdOf ByteArray.empty t144 (wrap64 ((t144.length : Int) - 1))).toList = ([42, 42] : List UInt8) then (if (t147.length : Int) < (t144.length : Int) then (some false) else (if (wrap64 ((t144.length : Int) - 1)) ≤ (t147.length : Int) then (bailiwickref02_Match.j0 k t144 (t147.take ((wrap64 ((t144.length : Int) - 1)) : Int).toNat) (wrap64 ((t144.length : Int) - 1))) else (none))) else (bailiwickref02_Match.j0 k t144 t147 (t144.length : Int))) else (none)) else (none))) = some r := H
  have A3 := Aside0.mk A30
  clear A30
  replace H := Option.bind_eq_some_iff.mp H
  obtain ⟨t147, A40, H⟩ := H
  replace H : (if 0 ≤ (wrap64 ((t144.length : Int) - 1)) then (if (wrap64 ((t144.length : Int) - 1)) < (t144.length : Int) then (if (rdOf ByteArray.empty t144 (wrap64 ((t144.length : Int) - 1))).toList = ([42, 42] : List UInt8) then (if (t147.length : Int) < (t144.length : Int) then (some false) else (if (wrap64 ((t144.length : Int) - 1)) ≤ (t147.length : Int) then (bailiwickref02_Match.j0 k t144 (t147.take ((wrap64 ((t144.length : Int) - 1)) : Int).toNat) (wrap64 ((t144.length : Int) - 1))) else (none))) else (bailiwickref02_Match.j0 k t144 t147 (t144.length : Int))) else (none)) else (none)) = some r := H
  have A4 := Aside0.mk A40
  clear A40
  obtain ⟨ji5, hji5⟩ : ∃ j_ : Int, (wrap64 ((t144.length : Int) - 1)) = j_ := ⟨_, rfl⟩
  replace H : (if 0 ≤ (ji5) then (if (ji5) < (t144.length : Int) then (if (rdOf ByteArray.empty t144 (ji5)).toList = ([42, 42] : List UInt8) then (if (t147.length : Int) < (t144.length : Int) then (some false) else (if (ji5) ≤ (t147.length : Int) then (bailiwickref02_Match.j0 k t144 (t147.take ((ji5) : Int).toNat) ji5) else (none))) else (bailiwickref02_Match.j0 k t144 t147 (t144.length : Int))) else (none)) else (none)) = some r := by first | (rw [hji5] at H; exact H) | (simp only [hji5] at H ⊢; exact H)
  (try rw [hji5] at A3)
  (try rw [hji5] at A4)
  have hji5w : (IntKind.i64.wrap ((t144.length : Int) - 1)) = ji5 := (i64_w _).trans hji5
  by_cases c6 : 0 ≤ (ji5)
  · rw [if_pos c6] at H
    have c6b0 : decide (0 ≤ (ji5)) = true := decide_eq_true c6
    clear c6
    by_cases c7 : (ji5) < (t144.length : Int)
    · rw [if_pos c7] at H
      have c7b0 : decide ((ji5) < (t144.length : Int)) = true := decide_eq_true c7
      clear c7
      have HC8 := Aside0.mk H
      clear H
      go_enter Tryd.func21, Tryd.ntmps21
      (try dsimp only [List.append])
      go_upto_if 20 with (first | (go_at_call 19; (with_reducible refine (Go.Proofs.YtipfiodeakapdaaDoor.P.bailiwickref02_Parts.calls k a0 t144 _ A3.out).mono ?_); rintro e w9 ⟨v145, rfl, ho0, hb⟩; have n0_ := Aside0.mk (Kd.R_lower ho0 (below_size (by repeat (first | (with_reducible first | exact HB.out | apply below_alloc | apply pw_below_drewN | apply below_drew1) | exact HB.out)))); have n1_ := Aside0.mk (below_step (by repeat (first | (with_reducible first | exact HB.out | apply below_alloc | apply pw_below_drewN | apply below_drew1) | exact HB.out)) hb); clear HB; have HO146 := n0_; have HB := n1_; clear n0_ n1_; (try clear hb); (try clear hb2); (try clear hk); (try clear hi); (try clear ho0)) | (go_at_call 19; (with_reducible refine (Go.Proofs.YtipfiodeakapdaaDoor.P.bailiwickref02_Parts.calls k a1 t147 _ A4.out).mono ?_); rintro e w10 ⟨v148, rfl, ho0, hb⟩; have n0_ := Aside0.mk (Kd.R_elder' (by (with_reducible repeat (first | apply Kd.R_alloc | apply Kd.R_drewN | apply Kd.R_drew)); exact HO146.out) (Kd.R_base ho0) hb); have n1_ := Aside0.mk (Kd.R_lower (Kd.R_new' ho0 (Kd.R_lt (by (with_reducible repeat (first | apply Kd.R_alloc | apply Kd.R_drewN | apply Kd.R_drew)); exact HO146.out))) (below_size (by repeat (first | (with_reducible first | exact HB.out | apply below_alloc | apply pw_below_drewN | apply below_drew1) | exact HB.out)))); have n2_ := Aside0.mk (below_step (by repeat (first | (with_reducible first | exact HB.out | apply below_alloc | apply pw_below_drewN | apply below_drew1) | exact HB.out)) hb); clear HO146; clear HB; have HO146 := n0_; have HO149 := n1_; have HB := n2_; clear n0_ n1_ n2_; (try clear hb); (try clear hb2); (try clear hk); (try clear hi); (try clear ho0); obtain ⟨Ao11, co11, eo11⟩ := Kd.R_slice HO146.out; subst eo11; have p150 : 0 ≤ ((ji5) : Int) := of_decide_eq_true (by first | (with_reducible assumption) | assumption); have q150 : (ji5) < (t144.length : Int) := of_decide_eq_true (by first | (with_reducible assumption) | assumption); obtain ⟨ad150, e150, hx150_0⟩ := Kd.at_string (Kd.R_reads' HO146.out).2.2 (ji5) p150 q150; cases e150; replace p150 := eq_true p150; replace q150 := eq_true q150))
      repeat (go_quiet (first | (go_at_call 19; (with_reducible refine (Go.Proofs.YtipfiodeakapdaaDoor.P.bailiwickref02_Parts.calls k a0 t144 _ A3.out).mono ?_); rintro e w9 ⟨v145, rfl, ho0, hb⟩; have n0_ := Aside0.mk (Kd.R_lower ho0 (below_size (by repeat (first | (with_reducible first | exact HB.out | apply below_alloc | apply pw_below_drewN | apply below_drew1) | exact HB.out)))); have n1_ := Aside0.mk (below_step (by repeat (first | (with_reducible first | exact HB.out | apply below_alloc | apply pw_below_drewN | apply below_drew1) | exact HB.out)) hb); clear HB; have HO146 := n0_; have HB := n1_; clear n0_ n1_; (try clear hb); (try clear hb2); (try clear hk); (try clear hi); (try clear ho0)) | (go_at_call 19; (with_reducible refine (Go.Proofs.YtipfiodeakapdaaDoor.P.bailiwickref02_Parts.calls k a1 t147 _ A4.out).mono ?_); rintro e w10 ⟨v148, rfl, ho0, hb⟩; have n0_ := Aside0.mk (Kd.R_elder' (by (with_reducible repeat (first | apply Kd.R_alloc | apply Kd.R_drewN | apply Kd.R_drew)); exact HO146.out) (Kd.R_base ho0) hb); have n1_ := Aside0.mk (Kd.R_lower (Kd.R_new' ho0 (Kd.R_lt (by (with_reducible repeat (first | apply Kd.R_alloc | apply Kd.R_drewN | apply Kd.R_drew)); exact HO146.out))) (below_size (by repeat (first | (with_reducible first | exact HB.out | apply below_alloc | apply pw_below_drewN | apply below_drew1) | exact HB.out)))); have n2_ := Aside0.mk (below_step (by repeat (first | (with_reducible first | exact HB.out | apply below_alloc | apply pw_below_drewN | apply below_drew1) | exact HB.out)) hb); clear HO146; clear HB; have HO146 := n0_; have HO149 := n1_; have HB := n2_; clear n0_ n1_ n2_; (try clear hb); (try clear hb2); (try clear hk); (try clear hi); (try clear ho0); obtain ⟨Ao11, co11, eo11⟩ := Kd.R_slice HO146.out; subst eo11; have p150 : 0 ≤ ((ji5) : Int) := of_decide_eq_true (by first | (with_reducible assumption) | assumption); have q150 : (ji5) < (t144.length : Int) := of_decide_eq_true (by first | (with_reducible assumption) | assumption); obtain ⟨ad150, e150, hx150_0⟩ := Kd.at_string (Kd.R_reads' HO146.out).2.2 (ji5) p150 q150; cases e150; replace p150 := eq_true p150; replace q150 := eq_true q150)); go_upto_if 20 with (first | (go_at_call 19; (with_reducible refine (Go.Proofs.YtipfiodeakapdaaDoor.P.bailiwickref02_Parts.calls k a0 t144 _ A3.out).mono ?_); rintro e w9 ⟨v145, rfl, ho0, hb⟩; have n0_ := Aside0.mk (Kd.R_lower ho0 (below_size (by repeat (first | (with_reducible first | exact HB.out | apply below_alloc | apply pw_below_drewN | apply below_drew1) | exact HB.out)))); have n1_ := Aside0.mk (below_step (by repeat (first | (with_reducible first | exact HB.out | apply below_alloc | apply pw_below_drewN | apply below_drew1) | exact HB.out)) hb); clear HB; have HO146 := n0_; have HB := n1_; clear n0_ n1_; (try clear hb); (try clear hb2); (try clear hk); (try clear hi); (try clear ho0)) | (go_at_call 19; (with_reducible refine (Go.Proofs.YtipfiodeakapdaaDoor.P.bailiwickref02_Parts.calls k a1 t147 _ A4.out).mono ?_); rintro e w10 ⟨v148, rfl, ho0, hb⟩; have n0_ := Aside0.mk (Kd.R_elder' (by (with_reducible repeat (first | apply Kd.R_alloc | apply Kd.R_drewN | apply Kd.R_drew)); exact HO146.out) (Kd.R_base ho0) hb); have n1_ := Aside0.mk (Kd.R_lower (Kd.R_new' ho0 (Kd.R_lt (by (with_reducible repeat (first | apply Kd.R_alloc | apply Kd.R_drewN | apply Kd.R_drew)); exact HO146.out))) (below_size (by repeat (first | (with_reducible first | exact HB.out | apply below_alloc | apply pw_below_drewN | apply below_drew1) | exact HB.out)))); have n2_ := Aside0.mk (below_step (by repeat (first | (with_reducible first | exact HB.out | apply below_alloc | apply pw_below_drewN | apply below_drew1) | exact HB.out)) hb); clear HO146; clear HB; have HO146 := n0_; have HO149 := n1_; have HB := n2_; clear n0_ n1_ n2_; (try clear hb); (try clear hb2); (try clear hk); (try clear hi); (try clear ho0); obtain ⟨Ao11, co11, eo11⟩ := Kd.R_slice HO146.out; subst eo11; have p150 : 0 ≤ ((ji5) : Int) := of_decide_eq_true (by first | (with_reducible assumption) | assumption); have q150 : (ji5) < (t144.length : Int) := of_decide_eq_true (by first | (with_reducible assumption) | assumption); obtain ⟨ad150, e150, hx150_0⟩ := Kd.at_string (Kd.R_reads' HO146.out).2.2 (ji5) p150 q150; cases e150; replace p150 := eq_true p150; replace q150 := eq_true q150)))
      (try simp only [Act.put, List.setIfInBounds_toArray, List.set_cons_zero, List.set_cons_succ])
      go_cut [6, 7] (fun v6 v7 wc => ∃ (kq : Nat) (x6_7 : List ByteArray) (x7_7 : Int), v7 = .int .i64 x7_7 ∧ Aside0 (bailiwickref02_Match.j0 kq t144 x6_7 x7_7 = some r) ∧ Aside0 (kq ≤ k) ∧ Aside0 (Kd.R Kd.string 9 wc w.heap.size (fun k_ => some k_ ≠ (v6 : Value).ownBlock) (.slice (some ad150) t144.length co11) t144) ∧ Aside0 (Kd.R Kd.string 9 wc w.heap.size (fun k_ => some k_ ≠ ((.slice (some ad150) t144.length co11) : Value).ownBlock) v6 x6_7) ∧ Aside0 (Below w.heap.size w wc))
      case first =>
        have H := HC8.out
        clear HC8
        by_cases c12 : (rdOf ByteArray.empty t144 (ji5)).toList = ([42, 42] : List UInt8)
        · rw [if_pos c12] at H
          have c12b0 : ((rdOf ByteArray.empty t144 (ji5)).toList == ([42, 42] : List UInt8)) = true := beq_iff_eq.mpr c12
          have c12b1 : ((rdOf ByteArray.empty t144 (ji5)).toList != ([42, 42] : List UInt8)) = false := bne_eq_false_iff_eq.mpr c12
          clear c12
          (first | rw [c12b0] | (simp only [i64_w, i32_w]; rw [c12b0]) | skip)
          by_cases c13 : (t147.length : Int) < (t144.length : Int)
          · rw [if_pos c13] at H
            have c13b0 : decide ((t147.length : Int) < (t144.length : Int)) = true := decide_eq_true c13
            have c13b1 : decide (t147.length < t144.length) = true := decide_eq_true (Int.ofNat_lt.mp c13)
            clear c13
            obtain rfl := Option.some.inj H
            obtain ⟨Ao14, co14, eo14⟩ := Kd.R_slice HO149.out
            subst eo14
            go_wp2
            repeat (go_quiet (fail); try go_wp2)
            go_ret
            exact ⟨by first | rfl | (simp [errW_none, errW_some] <;> rfl) | (simp only [← hji5]; first | rfl | (simp [errW_none, errW_some] <;> rfl)) | (simp [*, errW_none, errW_some] <;> rfl), by repeat (first | (with_reducible first | exact HB.out | apply below_alloc | apply pw_below_drewN | apply below_drew1) | exact HB.out)⟩
          · rw [if_neg c13] at H
            have c13b0 : decide ((t147.length : Int) < (t144.length : Int)) = false := decide_eq_false c13
            have c13b1 : decide (t147.length < t144.length) = false := decide_eq_false (fun h => c13 (Int.ofNat_lt.mpr h))
            clear c13
            by_cases c15 : (ji5) ≤ (t147.length : Int)
            · rw [if_pos c15] at H
              have c15b0 := eq_true c15
              have c15b1 : decide ((ji5) ≤ (t147.length : Int)) = true := decide_eq_true c15
              clear c15
              obtain ⟨y151, hy151⟩ : ∃ y_ : List ByteArray, y_ = (t147.take ((ji5) : Int).toNat) := ⟨_, rfl⟩
              replace H : (bailiwickref02_Match.j0 k t144 y151 ji5) = some r := by first | (rw [hy151]; with_reducible exact H) | (have H2_ := (Option.bind_some _ _).symm.trans H; rw [hy151]; with_reducible exact H2_) | (have H2_ := (Option.bind_some _ _).symm.trans H; with_reducible exact H2_) | with_reducible exact H | (rw [hy151]; exact H) | exact H
              have Ny151 := Aside0.mk hy151
              clear hy151
              have H' := Aside0.mk H
              clear H
              obtain ⟨Ao16, co16, eo16⟩ := Kd.R_slice HO149.out
              subst eo16
              have q17 : ((ji5) : Int) ≤ ((t147.length : Int) : Int) := of_decide_eq_true (by first | (with_reducible assumption) | assumption)
              obtain ⟨i017, hi017, _, hsz17, _⟩ := info_parts info9
              have hcut17 := cut_to (P := Tryd.prog) 28 9 .i64 Tryd.underlying28 hi017 Ao16 t147.length co16 (ji5) (of_decide_eq_true (by first | (with_reducible assumption) | assumption)) q17 (Kd.R_reads' HO149.out).2.1
              have hr17 := Kd.R_take (m := ((ji5) : Int).toNat) HO149.out (by omega)
              have hy17 : y151.length = ((ji5) : Int).toNat := (by rw [Ny151.out, List.length_take]; omega)
              rw [← Ny151.out] at hr17
              rw [← hy17] at hr17 hcut17
              clear hy17 hi017 hsz17 HO149
              have HO153 := Aside0.mk hr17
              clear hr17
              replace q17 := eq_true q17
              go_wp2
              repeat (go_quiet (fail); try go_wp2)
              go_meet
              case rel => exact ⟨_, (y151), (ji5), (by first | rfl | (simp; done) | (simp only [← hji5] <;> (first | rfl | simp)) | (simp [*]; done)), H', ⟨by first | omega | exact Nat.le_refl _⟩, ⟨by (with_reducible repeat (first | apply Kd.R_alloc | apply Kd.R_drewN | apply Kd.R_drew)); exact Kd.R_mono HO146.out (fun _ hk => by first | exact hk.2 | exact R.ob_len hk.2)⟩, ⟨by (with_reducible repeat (first | apply Kd.R_alloc | apply Kd.R_drewN | apply Kd.R_drew)); exact Kd.R_mono HO153.out (fun _ hk => by first | exact hk.2 | exact R.ob_len hk.2)⟩, ⟨by repeat (first | (with_reducible first | exact HB.out | apply below_alloc | apply pw_below_drewN | apply below_drew1) | exact HB.out)⟩⟩
            · rw [if_neg c15] at H
              exact absurd H (by simp)
        · rw [if_neg c12] at H
          have c12b0 : ((rdOf ByteArray.empty t144 (ji5)).toList == ([42, 42] : List UInt8)) = false := beq_eq_false_iff_ne.mpr c12
          have c12b1 : ((rdOf ByteArray.empty t144 (ji5)).toList != ([42, 42] : List UInt8)) = true := bne_iff_ne.mpr c12
          (first | rw [c12b0] | (simp only [i64_w, i32_w]; rw [c12b0]) | skip)
          have H' := Aside0.mk H
          clear H
          go_wp2
          repeat (go_quiet (fail); try go_wp2)
          go_meet
          case rel => exact ⟨_, (t147), ((t144.length : Int)), (by first | rfl | (simp; done) | (simp [*]; done)), H', ⟨by first | omega | exact Nat.le_refl _⟩, ⟨by (with_reducible repeat (first | apply Kd.R_alloc | apply Kd.R_drewN | apply Kd.R_drew)); exact Kd.R_mono HO146.out (fun _ hk => by first | exact hk.2 | exact R.ob_len hk.2)⟩, ⟨by (with_reducible repeat (first | apply Kd.R_alloc | apply Kd.R_drewN | apply Kd.R_drew)); exact Kd.R_mono HO149.out (fun _ hk => by first | exact hk.2 | exact R.ob_len hk.2)⟩, ⟨by repeat (first | (with_reducible first | exact HB.out | apply below_alloc | apply pw_below_drewN | apply below_drew1) | exact HB.out)⟩⟩
      case rest =>
        clear HC8
        try clear c1
        try clear p1
        try clear q1
        try clear hx1
        try clear c2
        try clear p2
        try clear c6
        try clear c6b0
        try clear p6
        try clear c7
        try clear c7b0
        try clear c12
        try clear c12b0
        try clear c12b1
        try clear c13
        try clear c13b0
        try clear c13b1
        try clear c15
        try clear c15b0
        try clear c15b1
        try clear p15
        try clear q15
        try clear hx15
        try clear q17
        try clear hx150_0
        try clear p150
        try clear q150
        try clear q17
        obtain ⟨kq, x6_7, x7_7, rfl, HA, HJ7, HO_5, HO_6, HB⟩ := hcut
        cases kq with
        | zero => exact absurd HA.out (by simp [bailiwickref02_Match.j0])
        | succ kj7 =>
          have H := HA.out
          clear HA
          simp only [bailiwickref02_Match.j0] at H
          by_cases c18 : (x6_7.length : Int) = x7_7
          · rw [if_pos c18] at H
            have c18b0 : ((x6_7.length : Int) == x7_7) = true := beq_iff_eq.mpr c18
            have c18b1 : ((x6_7.length : Int) != x7_7) = false := bne_eq_false_iff_eq.mpr c18
            clear c18
            have H' := Aside0.mk H
            clear H
            obtain ⟨Ao19, co19, eo19⟩ := Kd.R_slice HO_6.out
            subst eo19
            go_wp2
            repeat (go_quiet (fail); try go_wp2)
            go_loopg [8] kj7 (fun kq v8 w' => ∃ (x8_2 : Int), v8 = .int .i64 x8_2 ∧ Aside0 (bailiwickref02_Match.l0 kq t144 x6_7 x7_7 x8_2 = some r) ∧ Aside0 (kq ≤ kj7) ∧ Aside0 (Kd.R Kd.string 9 w' w.heap.size (fun k_ => some k_ ≠ ((.slice Ao19 x6_7.length co19) : Value).ownBlock) (.slice (some ad150) t144.length co11) t144) ∧ Aside0 (Kd.R Kd.string 9 w' w.heap.size (fun k_ => some k_ ≠ ((.slice (some ad150) t144.length co11) : Value).ownBlock) (.slice Ao19 x6_7.length co19) x6_7) ∧ Aside0 (Below w.heap.size w w'))
            case atStart => exact ⟨(0), (by first | rfl | (simp; done) | (simp [*]; done)), H', ⟨Nat.le_refl _⟩, ⟨by (with_reducible repeat (first | apply Kd.R_alloc | apply Kd.R_drewN | apply Kd.R_drew)); exact HO_5.out⟩, ⟨by (with_reducible repeat (first | apply Kd.R_alloc | apply Kd.R_drewN | apply Kd.R_drew)); exact HO_6.out⟩, ⟨by repeat (first | (with_reducible first | exact HB.out | apply below_alloc | apply pw_below_drewN | apply below_drew1) | exact HB.out)⟩⟩
            case round =>
              clear H'
              try clear c1
              try clear p1
              try clear q1
              try clear hx1
              try clear c2
              try clear p2
              try clear c6
              try clear c6b0
              try clear p6
              try clear c7
              try clear c7b0
              try clear c12
              try clear c12b0
              try clear c12b1
              try clear c13
              try clear c13b0
              try clear c13b1
              try clear c15
              try clear c15b0
              try clear c15b1
              try clear p15
              try clear q15
              try clear hx15
              try clear q17
              try clear c18
              try clear c18b0
              try clear c18b1
              try clear hx150_0
              try clear p1
              try clear p15
              try clear p150
              try clear p2
              try clear p6
              try clear q1
              try clear q15
              try clear q150
              try clear q17
              obtain ⟨x8_2, rfl, HA, HK2, HO_5, HO_6, HB⟩ := hrel
              cases gk with
              | zero => exact absurd HA.out (by simp [bailiwickref02_Match.l0])
              | succ k2 =>
                have H := HA.out
                clear HA
                simp only [bailiwickref02_Match.l0] at H
                by_cases c20 : x8_2 < x7_7
                · rw [if_pos c20] at H
                  have c20b0 : decide (x8_2 < x7_7) = true := decide_eq_true c20
                  clear c20
                  by_cases c21 : 0 ≤ x8_2
                  · rw [if_pos c21] at H
                    have c21b0 : decide (0 ≤ x8_2) = true := decide_eq_true c21
                    clear c21
                    by_cases c22 : x8_2 < (t144.length : Int)
                    · rw [if_pos c22] at H
                      have c22b0 : decide (x8_2 < (t144.length : Int)) = true := decide_eq_true c22
                      clear c22
                      by_cases c23 : (rdOf ByteArray.empty t144 x8_2).toList = ([42] : List UInt8)
                      · rw [if_pos c23] at H
                        have c23b0 : ((rdOf ByteArray.empty t144 x8_2).toList == ([42] : List UInt8)) = true := beq_iff_eq.mpr c23
                        have c23b1 : ((rdOf ByteArray.empty t144 x8_2).toList != ([42] : List UInt8)) = false := bne_eq_false_iff_eq.mpr c23
                        clear c23
                        have H' := Aside0.mk H
                        clear H
                        have p154 : 0 ≤ (x8_2 : Int) := of_decide_eq_true (by first | (with_reducible assumption) | assumption)
                        have q154 : x8_2 < (t144.length : Int) := of_decide_eq_true (by first | (with_reducible assumption) | assumption)
                        obtain ⟨ad154, e154, hx154_0⟩ := Kd.at_string (Kd.R_reads' HO_5.out).2.2 x8_2 p154 q154
                        obtain rfl : ad150 = ad154 := (by injection e154)
                        replace p154 := eq_true p154
                        replace q154 := eq_true q154
                        go_wp2
                        repeat (go_quiet (fail); try go_wp2)
                        go_roundg k2
                        case measure => have := HJ7.out; have := HK2.out; omega
                        case rel => exact ⟨(wrap64 (x8_2 + 1)), (by first | rfl | (simp; done) | (simp [*]; done)), H', ⟨by have := HJ7.out; have := HK2.out; omega⟩, ⟨by (with_reducible repeat (first | apply Kd.R_alloc | apply Kd.R_drewN | apply Kd.R_drew)); exact HO_5.out⟩, ⟨by (with_reducible repeat (first | apply Kd.R_alloc | apply Kd.R_drewN | apply Kd.R_drew)); exact HO_6.out⟩, ⟨by repeat (first | (with_reducible first | exact HB.out | apply below_alloc | apply pw_below_drewN | apply below_drew1) | exact HB.out)⟩⟩
                      · rw [if_neg c23] at H
                        have c23b0 : ((rdOf ByteArray.empty t144 x8_2).toList == ([42] : List UInt8)) = false := beq_eq_false_iff_ne.mpr c23
                        have c23b1 : ((rdOf ByteArray.empty t144 x8_2).toList != ([42] : List UInt8)) = true := bne_iff_ne.mpr c23
                        by_cases c24 : x8_2 < (x6_7.length : Int)
                        · rw [if_pos c24] at H
                          have c24b0 : decide (x8_2 < (x6_7.length : Int)) = true := decide_eq_true c24
                          clear c24
                          by_cases c25 : (rdOf ByteArray.empty t144 x8_2).toList = (rdOf ByteArray.empty x6_7 x8_2).toList
                          · rw [if_pos c25] at H
                            have c25b0 : ((rdOf ByteArray.empty t144 x8_2).toList == (rdOf ByteArray.empty x6_7 x8_2).toList) = true := beq_iff_eq.mpr c25
                            have c25b1 : ((rdOf ByteArray.empty t144 x8_2).toList != (rdOf ByteArray.empty x6_7 x8_2).toList) = false := bne_eq_false_iff_eq.mpr c25
                            clear c25
                            have H' := Aside0.mk H
                            clear H
                            have p154 : 0 ≤ (x8_2 : Int) := of_decide_eq_true (by first | (with_reducible assumption) | assumption)
                            have q154 : x8_2 < (t144.length : Int) := of_decide_eq_true (by first | (with_reducible assumption) | assumption)
                            obtain ⟨ad154, e154, hx154_0⟩ := Kd.at_string (Kd.R_reads' HO_5.out).2.2 x8_2 p154 q154
                            obtain rfl : ad150 = ad154 := (by injection e154)
                            replace p154 := eq_true p154
                            replace q154 := eq_true q154
                            have p155 : 0 ≤ (x8_2 : Int) := of_decide_eq_true (by first | (with_reducible assumption) | assumption)
                            have q155 : x8_2 < (t144.length : Int) := of_decide_eq_true (by first | (with_reducible assumption) | assumption)
                            obtain ⟨ad155, e155, hx155_0⟩ := Kd.at_string (Kd.R_reads' HO_5.out).2.2 x8_2 p155 q155
                            obtain rfl : ad150 = ad155 := (by injection e155)
                            replace p155 := eq_true p155
                            replace q155 := eq_true q155
                            have p156 : 0 ≤ (x8_2 : Int) := of_decide_eq_true (by first | (with_reducible assumption) | assumption)
                            have q156 : x8_2 < (x6_7.length : Int) := of_decide_eq_true (by first | (with_reducible assumption) | assumption)
                            obtain ⟨ad156, e156, hx156_0⟩ := Kd.at_string (Kd.R_reads' HO_6.out).2.2 x8_2 p156 q156
                            cases e156
                            replace p156 := eq_true p156
                            replace q156 := eq_true q156
                            go_wp2
                            repeat (go_quiet (fail); try go_wp2)
                            go_roundg k2
                            case measure => have := HJ7.out; have := HK2.out; omega
                            case rel => exact ⟨(wrap64 (x8_2 + 1)), (by first | rfl | (simp; done) | (simp [*]; done)), H', ⟨by have := HJ7.out; have := HK2.out; omega⟩, ⟨by (with_reducible repeat (first | apply Kd.R_alloc | apply Kd.R_drewN | apply Kd.R_drew)); exact HO_5.out⟩, ⟨by (with_reducible repeat (first | apply Kd.R_alloc | apply Kd.R_drewN | apply Kd.R_drew)); exact HO_6.out⟩, ⟨by repeat (first | (with_reducible first | exact HB.out | apply below_alloc | apply pw_below_drewN | apply below_drew1) | exact HB.out)⟩⟩
                          · rw [if_neg c25] at H
                            have c25b0 : ((rdOf ByteArray.empty t144 x8_2).toList == (rdOf ByteArray.empty x6_7 x8_2).toList) = false := beq_eq_false_iff_ne.mpr c25
                            have c25b1 : ((rdOf ByteArray.empty t144 x8_2).toList != (rdOf ByteArray.empty x6_7 x8_2).toList) = true := bne_iff_ne.mpr c25
                            obtain rfl := Option.some.inj H
                            have p154 : 0 ≤ (x8_2 : Int) := of_decide_eq_true (by first | (with_reducible assumption) | assumption)
                            have q154 : x8_2 < (t144.length : Int) := of_decide_eq_true (by first | (with_reducible assumption) | assumption)
                            obtain ⟨ad154, e154, hx154_0⟩ := Kd.at_string (Kd.R_reads' HO_5.out).2.2 x8_2 p154 q154
                            obtain rfl : ad150 = ad154 := (by injection e154)
                            replace p154 := eq_true p154
                            replace q154 := eq_true q154
                            have p155 : 0 ≤ (x8_2 : Int) := of_decide_eq_true (by first | (with_reducible assumption) | assumption)
                            have q155 : x8_2 < (t144.length : Int) := of_decide_eq_true (by first | (with_reducible assumption) | assumption)
                            obtain ⟨ad155, e155, hx155_0⟩ := Kd.at_string (Kd.R_reads' HO_5.out).2.2 x8_2 p155 q155
                            obtain rfl : ad150 = ad155 := (by injection e155)
                            replace p155 := eq_true p155
                            replace q155 := eq_true q155
                            have p156 : 0 ≤ (x8_2 : Int) := of_decide_eq_true (by first | (with_reducible assumption) | assumption)
                            have q156 : x8_2 < (x6_7.length : Int) := of_decide_eq_true (by first | (with_reducible assumption) | assumption)
                            obtain ⟨ad156, e156, hx156_0⟩ := Kd.at_string (Kd.R_reads' HO_6.out).2.2 x8_2 p156 q156
                            cases e156
                            replace p156 := eq_true p156
                            replace q156 := eq_true q156
                            go_wp2
                            repeat (go_quiet (fail); try go_wp2)
                            go_ret
                            exact ⟨by first | rfl | (simp [errW_none, errW_some] <;> rfl) | (simp only [← hji5]; first | rfl | (simp [errW_none, errW_some] <;> rfl)) | (simp [*, errW_none, errW_some] <;> rfl), by repeat (first | (with_reducible first | exact HB.out | apply below_alloc | apply pw_below_drewN | apply below_drew1) | exact HB.out)⟩
                        · rw [if_neg c24] at H
                          exact absurd H (by simp)
                    · rw [if_neg c22] at H
                      exact absurd H (by simp)
                  · rw [if_neg c21] at H
                    exact absurd H (by simp)
                · rw [if_neg c20] at H
                  have c20b0 : decide (x8_2 < x7_7) = false := decide_eq_false c20
                  clear c20
                  obtain rfl := Option.some.inj H
                  go_wp2
                  repeat (go_quiet (fail); try go_wp2)
                  go_ret
                  exact ⟨by first | rfl | (simp [errW_none, errW_some] <;> rfl) | (simp only [← hji5]; first | rfl | (simp [errW_none, errW_some] <;> rfl)) | (simp [*, errW_none, errW_some] <;> rfl), by repeat (first | (with_reducible first | exact HB.out | apply below_alloc | apply pw_below_drewN | apply below_drew1) | exact HB.out)⟩
          · rw [if_neg c18] at H
            have c18b0 : ((x6_7.length : Int) == x7_7) = false := beq_eq_false_iff_ne.mpr c18
            have c18b1 : ((x6_7.length : Int) != x7_7) = true := bne_iff_ne.mpr c18
            obtain rfl := Option.some.inj H
            obtain ⟨Ao26, co26, eo26⟩ := Kd.R_slice HO_6.out
            subst eo26
            go_wp2
            repeat (go_quiet (fail); try go_wp2)
            go_ret
            exact ⟨by first | rfl | (simp [errW_none, errW_some] <;> rfl) | (simp only [← hji5]; first | rfl | (simp [errW_none, errW_some] <;> rfl)) | (simp [*, errW_none, errW_some] <;> rfl), by repeat (first | (with_reducible first | exact HB.out | apply below_alloc | apply pw_below_drewN | apply below_drew1) | exact HB.out)⟩
    · rw [if_neg c7] at H
      exact absurd H (by simp)
  · rw [if_neg c6] at H
    exact absurd H (by simp)

/-! ### bailiwicklaw02_LabelMatches: function 4 -/
def bailiwicklaw02_LabelMatches.f (k : Nat) (a0 : ByteArray) (a1 : ByteArray) : Option (Bool) := (bailiwicklaw02_examples.f k).bind fun t157 => (if t157 = true then ((Go.Proofs.YtipfiodeakapdaaDoor.R.Parts.f a1).bind fun t158 => ((Go.Proofs.YtipfiodeakapdaaDoor.P.bailiwickref02_Parts.f k a1).bind fun t161 => ((Go.Proofs.YtipfiodeakapdaaDoor.P.bailiwicklaw02_words.f k t158 t161).bind fun t164 => (if t164 = true then ((label_Match.f k a0 a1).bind fun t165 => ((bailiwickref02_Match.f k a0 a1).bind fun t166 => (some (t165 == t166)))) else (some false))))) else (some false))
theorem bailiwicklaw02_LabelMatches.mono : ∀ a0 a1 k, LeO (bailiwicklaw02_LabelMatches.f k a0 a1) (bailiwicklaw02_LabelMatches.f (k + 1) a0 a1) := by
  intro a0 a1 k
  unfold bailiwicklaw02_LabelMatches.f
  repeat' first
      | (with_reducible exact Go.Proofs.YtipfiodeakapdaaDoor.P.bailiwicklaw02_words.mono _ _ _)
      | (with_reducible exact Go.Proofs.YtipfiodeakapdaaDoor.P.bailiwickref02_Parts.mono _ _)
      | (with_reducible exact bailiwicklaw02_examples.mono _)
      | (with_reducible exact bailiwickref02_Match.mono _ _ _)
      | (with_reducible exact label_Match.mono _ _ _)
      | (with_reducible exact LeO.refl _)
      | (with_reducible exact LeO.none _)
      | (with_reducible refine LeO.ite ?_ ?_)
      | (with_reducible refine LeO.bind ?_ (fun _ => ?_))
      | exact Go.Proofs.YtipfiodeakapdaaDoor.P.bailiwicklaw02_words.mono _ _ _
      | exact Go.Proofs.YtipfiodeakapdaaDoor.P.bailiwickref02_Parts.mono _ _
      | exact bailiwicklaw02_examples.mono _
      | exact bailiwickref02_Match.mono _ _ _
      | exact label_Match.mono _ _ _
      | exact LeO.none _
      | refine LeO.ite ?_ ?_
      | refine LeO.bind ?_ (fun _ => ?_)
set_option maxHeartbeats 8000000 in
set_option maxRecDepth 100000 in
theorem bailiwicklaw02_LabelMatches.calls (k : Nat) (a0 : ByteArray) (a1 : ByteArray) (r : Bool) (w : World) (h : bailiwicklaw02_LabelMatches.f k a0 a1 = some r) :
    Calls Tryd.prog 4 #[.string a0, .string a1] w fun e w' => e = .returned (.bool r) ∧ Below w.heap.size w w' := by
  have HB := Aside0.mk (Below.refl w.heap.size w)
  have H : ((bailiwicklaw02_examples.f k).bind fun t157 => (if t157 = true then ((Go.Proofs.YtipfiodeakapdaaDoor.R.Parts.f a1).bind fun t158 => ((Go.Proofs.YtipfiodeakapdaaDoor.P.bailiwickref02_Parts.f k a1).bind fun t161 => ((Go.Proofs.YtipfiodeakapdaaDoor.P.bailiwicklaw02_words.f k t158 t161).bind fun t164 => (if t164 = true then ((label_Match.f k a0 a1).bind fun t165 => ((bailiwickref02_Match.f k a0 a1).bind fun t166 => (some (t165 == t166)))) else (some false))))) else (some false))) = some r := h
  clear h
  replace H := Option.bind_eq_some_iff.mp H
  obtain ⟨t157, A30, H⟩ := H
  replace H : (if t157 = true then ((Go.Proofs.YtipfiodeakapdaaDoor.R.Parts.f a1).bind fun t158 => ((Go.Proofs.YtipfiodeakapdaaDoor.P.bailiwickref02_Parts.f k a1).bind fun t161 => ((Go.Proofs.YtipfiodeakapdaaDoor.P.bailiwicklaw02_words.f k t158 t161).bind fun t164 => (if t164 = true then ((label_Match.f k a0 a1).bind fun t165 => ((bailiwickref02_Match.f k a0 a1).bind fun t166 => (some (t165 == t166)))) else (some false))))) else (some false)) = some r := H
  have A3 := Aside0.mk A30
  clear A30
  by_cases c4 : t157 = true
  · subst c4
    have H1 : ((Go.Proofs.YtipfiodeakapdaaDoor.R.Parts.f a1).bind fun t158 => ((Go.Proofs.YtipfiodeakapdaaDoor.P.bailiwickref02_Parts.f k a1).bind fun t161 => ((Go.Proofs.YtipfiodeakapdaaDoor.P.bailiwicklaw02_words.f k t158 t161).bind fun t164 => (if t164 = true then ((label_Match.f k a0 a1).bind fun t165 => ((bailiwickref02_Match.f k a0 a1).bind fun t166 => (some (t165 == t166)))) else (some false))))) = some r := by first | (rw [if_pos rfl] at H; exact H) | (rw [if_pos trivial] at H; exact H)
    clear H
    have H := H1
    clear H1
    replace H := Option.bind_eq_some_iff.mp H
    obtain ⟨t158, A50, H⟩ := H
    replace H : ((Go.Proofs.YtipfiodeakapdaaDoor.P.bailiwickref02_Parts.f k a1).bind fun t161 => ((Go.Proofs.YtipfiodeakapdaaDoor.P.bailiwicklaw02_words.f k t158 t161).bind fun t164 => (if t164 = true then ((label_Match.f k a0 a1).bind fun t165 => ((bailiwickref02_Match.f k a0 a1).bind fun t166 => (some (t165 == t166)))) else (some false)))) = some r := H
    have A5 := Aside0.mk A50
    clear A50
    replace H := Option.bind_eq_some_iff.mp H
    obtain ⟨t161, A60, H⟩ := H
    replace H : ((Go.Proofs.YtipfiodeakapdaaDoor.P.bailiwicklaw02_words.f k t158 t161).bind fun t164 => (if t164 = true then ((label_Match.f k a0 a1).bind fun t165 => ((bailiwickref02_Match.f k a0 a1).bind fun t166 => (some (t165 == t166)))) else (some false))) = some r := H
    have A6 := Aside0.mk A60
    clear A60
    replace H := Option.bind_eq_some_iff.mp H
    obtain ⟨t164, A70, H⟩ := H
    replace H : (if t164 = true then ((label_Match.f k a0 a1).bind fun t165 => ((bailiwickref02_Match.f k a0 a1).bind fun t166 => (some (t165 == t166)))) else (some false)) = some r := H
    have A7 := Aside0.mk A70
    clear A70
    by_cases c8 : t164 = true
    · subst c8
      have H1 : ((label_Match.f k a0 a1).bind fun t165 => ((bailiwickref02_Match.f k a0 a1).bind fun t166 => (some (t165 == t166)))) = some r := by first | (rw [if_pos rfl] at H; exact H) | (rw [if_pos trivial] at H; exact H)
      clear H
      have H := H1
      clear H1
      replace H := Option.bind_eq_some_iff.mp H
      obtain ⟨t165, A90, H⟩ := H
      replace H : ((bailiwickref02_Match.f k a0 a1).bind fun t166 => (some (t165 == t166))) = some r := H
      have A9 := Aside0.mk A90
      clear A90
      replace H := Option.bind_eq_some_iff.mp H
      obtain ⟨t166, A100, H⟩ := H
      replace H : (some (t165 == t166)) = some r := H
      have A10 := Aside0.mk A100
      clear A100
      obtain rfl := Option.some.inj H
      go_enter Tryd.func4, Tryd.ntmps4
      (try dsimp only [List.append])
      go_wp2_with (first | ((with_reducible refine gate_callee (f := 10) rfl ?_); refine goesL_ (some 7) rfl rfl Tryd.func10 (by kernel_rfl) rfl #[] rfl (by (try simp only [List.map_toArray, List.map_cons, List.map_nil]); first | done | rfl | (simp only [List.length_drop, List.length_take]; rfl)) ?_; (with_reducible refine (bailiwicklaw02_examples.calls k  true _ A3.out).mono ?_); rintro e w11 ⟨rfl, hb⟩; refine ⟨_, rfl, ?_⟩; have n0_ := Aside0.mk (below_step (by repeat (first | (with_reducible first | exact HB.out | apply below_alloc | apply pw_below_drewN | apply below_drew1) | exact HB.out)) hb); clear HB; have HB := n0_; clear n0_; (try clear hb); (try clear hb2); (try clear hk); (try clear hi)) | ((with_reducible refine gate_callee (f := 18) rfl ?_); refine goesL_ (some 11) rfl rfl Tryd.func18 (by kernel_rfl) rfl #[.string a1] rfl (by (try simp only [List.map_toArray, List.map_cons, List.map_nil]); first | done | rfl | (simp only [List.length_drop, List.length_take]; rfl)) ?_; (with_reducible refine (Go.Proofs.YtipfiodeakapdaaDoor.R.Parts.calls a1 t158 _ A5.out).mono ?_); rintro e w12 ⟨v159, rfl, ho0, hb⟩; refine ⟨_, rfl, ?_⟩; have n0_ := Aside0.mk (Kd.R_lower ho0 (below_size (by repeat (first | (with_reducible first | exact HB.out | apply below_alloc | apply pw_below_drewN | apply below_drew1) | exact HB.out)))); have n1_ := Aside0.mk (below_step (by repeat (first | (with_reducible first | exact HB.out | apply below_alloc | apply pw_below_drewN | apply below_drew1) | exact HB.out)) hb); clear HB; have HO160 := n0_; have HB := n1_; clear n0_ n1_; (try clear hb); (try clear hb2); (try clear hk); (try clear hi); (try clear ho0)) | ((with_reducible refine gate_callee (f := 19) rfl ?_); refine goesL_ (some 13) rfl rfl Tryd.func19 (by kernel_rfl) rfl #[.string a1] rfl (by (try simp only [List.map_toArray, List.map_cons, List.map_nil]); first | done | rfl | (simp only [List.length_drop, List.length_take]; rfl)) ?_; (with_reducible refine (Go.Proofs.YtipfiodeakapdaaDoor.P.bailiwickref02_Parts.calls k a1 t161 _ A6.out).mono ?_); rintro e w13 ⟨v162, rfl, ho0, hb⟩; refine ⟨_, rfl, ?_⟩; have n0_ := Aside0.mk (Kd.R_elder' (by (with_reducible repeat (first | apply Kd.R_alloc | apply Kd.R_drewN | apply Kd.R_drew)); exact HO160.out) (Kd.R_base ho0) hb); have n1_ := Aside0.mk (Kd.R_lower (Kd.R_new' ho0 (Kd.R_lt (by (with_reducible repeat (first | apply Kd.R_alloc | apply Kd.R_drewN | apply Kd.R_drew)); exact HO160.out))) (below_size (by repeat (first | (with_reducible first | exact HB.out | apply below_alloc | apply pw_below_drewN | apply below_drew1) | exact HB.out)))); have n2_ := Aside0.mk (below_step (by repeat (first | (with_reducible first | exact HB.out | apply below_alloc | apply pw_below_drewN | apply below_drew1) | exact HB.out)) hb); clear HO160; clear HB; have HO160 := n0_; have HO163 := n1_; have HB := n2_; clear n0_ n1_ n2_; (try clear hb); (try clear hb2); (try clear hk); (try clear hi); (try clear ho0); obtain ⟨Ao14, co14, eo14⟩ := Kd.R_slice HO160.out; subst eo14; obtain ⟨Ao15, co15, eo15⟩ := Kd.R_slice HO163.out; subst eo15) | ((with_reducible refine gate_callee (f := 17) rfl ?_); refine goesL_ (some 14) rfl rfl Tryd.func17 (by kernel_rfl) rfl #[.slice Ao14 t158.length co14, .slice Ao15 t161.length co15] rfl (by (try simp only [List.map_toArray, List.map_cons, List.map_nil]); first | done | rfl | (simp only [List.length_drop, List.length_take]; rfl)) ?_; (with_reducible refine (Go.Proofs.YtipfiodeakapdaaDoor.P.bailiwicklaw02_words.calls k _ _ t158 _ _ t161 true _ ?side1 ?side2 ?side3 ?side4 A7.out).mono ?_); (case side1 => repeat (first | exact (Kd.R_reads' HO160.out).2.2 | (with_reducible refine Kd.C_alloc ?_ _) | (with_reducible refine Kd.C_drewN ?_ _) | (with_reducible refine Kd.C_drew ?_))); (case side2 => exact (Kd.R_reads' HO160.out).2.1); (case side3 => repeat (first | exact (Kd.R_reads' HO163.out).2.2 | (with_reducible refine Kd.C_alloc ?_ _) | (with_reducible refine Kd.C_drewN ?_ _) | (with_reducible refine Kd.C_drew ?_))); (case side4 => exact (Kd.R_reads' HO163.out).2.1); rintro e w' ⟨rfl, ⟨nd, rfl⟩⟩; refine ⟨_, rfl, ?_⟩) | (go_at_call 20; (with_reducible refine (label_Match.calls k a0 a1 t165 _ A9.out).mono ?_); rintro e w16 ⟨rfl, hb⟩; have n0_ := Aside0.mk (Kd.R_below (by (with_reducible repeat (first | apply Kd.R_alloc | apply Kd.R_drewN | apply Kd.R_drew)); exact HO160.out) hb); have n1_ := Aside0.mk (Kd.R_below (by (with_reducible repeat (first | apply Kd.R_alloc | apply Kd.R_drewN | apply Kd.R_drew)); exact HO163.out) hb); have n2_ := Aside0.mk (below_step (by repeat (first | (with_reducible first | exact HB.out | apply below_alloc | apply pw_below_drewN | apply below_drew1) | exact HB.out)) hb); clear HO160; clear HO163; clear HB; have HO160 := n0_; have HO163 := n1_; have HB := n2_; clear n0_ n1_ n2_; (try clear hb); (try clear hb2); (try clear hk); (try clear hi)) | (go_at_call 21; (with_reducible refine (bailiwickref02_Match.calls k a0 a1 t166 _ A10.out).mono ?_); rintro e w17 ⟨rfl, hb⟩; have n0_ := Aside0.mk (Kd.R_below (by (with_reducible repeat (first | apply Kd.R_alloc | apply Kd.R_drewN | apply Kd.R_drew)); exact HO160.out) hb); have n1_ := Aside0.mk (Kd.R_below (by (with_reducible repeat (first | apply Kd.R_alloc | apply Kd.R_drewN | apply Kd.R_drew)); exact HO163.out) hb); have n2_ := Aside0.mk (below_step (by repeat (first | (with_reducible first | exact HB.out | apply below_alloc | apply pw_below_drewN | apply below_drew1) | exact HB.out)) hb); clear HO160; clear HO163; clear HB; have HO160 := n0_; have HO163 := n1_; have HB := n2_; clear n0_ n1_ n2_; (try clear hb); (try clear hb2); (try clear hk); (try clear hi)))
      go_ret
      exact ⟨by first | rfl | (simp [errW_none, errW_some] <;> rfl) | (simp [*, errW_none, errW_some] <;> rfl), by repeat (first | (with_reducible first | exact HB.out | apply below_alloc | apply pw_below_drewN | apply below_drew1) | exact HB.out)⟩
    · replace c8 := Bool.eq_false_iff.mpr c8
      subst c8
      have H1 : (some false) = some r := by rw [if_neg (show ¬ (false = true) by decide)] at H; exact H
      clear H
      have H := H1
      clear H1
      obtain rfl := Option.some.inj H
      go_enter Tryd.func4, Tryd.ntmps4
      (try dsimp only [List.append])
      go_wp2_with (first | ((with_reducible refine gate_callee (f := 10) rfl ?_); refine goesL_ (some 7) rfl rfl Tryd.func10 (by kernel_rfl) rfl #[] rfl (by (try simp only [List.map_toArray, List.map_cons, List.map_nil]); first | done | rfl | (simp only [List.length_drop, List.length_take]; rfl)) ?_; (with_reducible refine (bailiwicklaw02_examples.calls k  true _ A3.out).mono ?_); rintro e w18 ⟨rfl, hb⟩; refine ⟨_, rfl, ?_⟩; have n0_ := Aside0.mk (below_step (by repeat (first | (with_reducible first | exact HB.out | apply below_alloc | apply pw_below_drewN | apply below_drew1) | exact HB.out)) hb); clear HB; have HB := n0_; clear n0_; (try clear hb); (try clear hb2); (try clear hk); (try clear hi)) | ((with_reducible refine gate_callee (f := 18) rfl ?_); refine goesL_ (some 11) rfl rfl Tryd.func18 (by kernel_rfl) rfl #[.string a1] rfl (by (try simp only [List.map_toArray, List.map_cons, List.map_nil]); first | done | rfl | (simp only [List.length_drop, List.length_take]; rfl)) ?_; (with_reducible refine (Go.Proofs.YtipfiodeakapdaaDoor.R.Parts.calls a1 t158 _ A5.out).mono ?_); rintro e w19 ⟨v159, rfl, ho0, hb⟩; refine ⟨_, rfl, ?_⟩; have n0_ := Aside0.mk (Kd.R_lower ho0 (below_size (by repeat (first | (with_reducible first | exact HB.out | apply below_alloc | apply pw_below_drewN | apply below_drew1) | exact HB.out)))); have n1_ := Aside0.mk (below_step (by repeat (first | (with_reducible first | exact HB.out | apply below_alloc | apply pw_below_drewN | apply below_drew1) | exact HB.out)) hb); clear HB; have HO160 := n0_; have HB := n1_; clear n0_ n1_; (try clear hb); (try clear hb2); (try clear hk); (try clear hi); (try clear ho0)) | ((with_reducible refine gate_callee (f := 19) rfl ?_); refine goesL_ (some 13) rfl rfl Tryd.func19 (by kernel_rfl) rfl #[.string a1] rfl (by (try simp only [List.map_toArray, List.map_cons, List.map_nil]); first | done | rfl | (simp only [List.length_drop, List.length_take]; rfl)) ?_; (with_reducible refine (Go.Proofs.YtipfiodeakapdaaDoor.P.bailiwickref02_Parts.calls k a1 t161 _ A6.out).mono ?_); rintro e w20 ⟨v162, rfl, ho0, hb⟩; refine ⟨_, rfl, ?_⟩; have n0_ := Aside0.mk (Kd.R_elder' (by (with_reducible repeat (first | apply Kd.R_alloc | apply Kd.R_drewN | apply Kd.R_drew)); exact HO160.out) (Kd.R_base ho0) hb); have n1_ := Aside0.mk (Kd.R_lower (Kd.R_new' ho0 (Kd.R_lt (by (with_reducible repeat (first | apply Kd.R_alloc | apply Kd.R_drewN | apply Kd.R_drew)); exact HO160.out))) (below_size (by repeat (first | (with_reducible first | exact HB.out | apply below_alloc | apply pw_below_drewN | apply below_drew1) | exact HB.out)))); have n2_ := Aside0.mk (below_step (by repeat (first | (with_reducible first | exact HB.out | apply below_alloc | apply pw_below_drewN | apply below_drew1) | exact HB.out)) hb); clear HO160; clear HB; have HO160 := n0_; have HO163 := n1_; have HB := n2_; clear n0_ n1_ n2_; (try clear hb); (try clear hb2); (try clear hk); (try clear hi); (try clear ho0); obtain ⟨Ao21, co21, eo21⟩ := Kd.R_slice HO160.out; subst eo21; obtain ⟨Ao22, co22, eo22⟩ := Kd.R_slice HO163.out; subst eo22) | ((with_reducible refine gate_callee (f := 17) rfl ?_); refine goesL_ (some 14) rfl rfl Tryd.func17 (by kernel_rfl) rfl #[.slice Ao21 t158.length co21, .slice Ao22 t161.length co22] rfl (by (try simp only [List.map_toArray, List.map_cons, List.map_nil]); first | done | rfl | (simp only [List.length_drop, List.length_take]; rfl)) ?_; (with_reducible refine (Go.Proofs.YtipfiodeakapdaaDoor.P.bailiwicklaw02_words.calls k _ _ t158 _ _ t161 false _ ?side1 ?side2 ?side3 ?side4 A7.out).mono ?_); (case side1 => repeat (first | exact (Kd.R_reads' HO160.out).2.2 | (with_reducible refine Kd.C_alloc ?_ _) | (with_reducible refine Kd.C_drewN ?_ _) | (with_reducible refine Kd.C_drew ?_))); (case side2 => exact (Kd.R_reads' HO160.out).2.1); (case side3 => repeat (first | exact (Kd.R_reads' HO163.out).2.2 | (with_reducible refine Kd.C_alloc ?_ _) | (with_reducible refine Kd.C_drewN ?_ _) | (with_reducible refine Kd.C_drew ?_))); (case side4 => exact (Kd.R_reads' HO163.out).2.1); rintro e w' ⟨rfl, ⟨nd, rfl⟩⟩; refine ⟨_, rfl, ?_⟩))
      go_ret
      exact ⟨by first | rfl | (simp [errW_none, errW_some] <;> rfl) | (simp [*, errW_none, errW_some] <;> rfl), by repeat (first | (with_reducible first | exact HB.out | apply below_alloc | apply pw_below_drewN | apply below_drew1) | exact HB.out)⟩
  · replace c4 := Bool.eq_false_iff.mpr c4
    subst c4
    have H1 : (some false) = some r := by rw [if_neg (show ¬ (false = true) by decide)] at H; exact H
    clear H
    have H := H1
    clear H1
    obtain rfl := Option.some.inj H
    go_enter Tryd.func4, Tryd.ntmps4
    (try dsimp only [List.append])
    go_wp2_with (first | ((with_reducible refine gate_callee (f := 10) rfl ?_); refine goesL_ (some 7) rfl rfl Tryd.func10 (by kernel_rfl) rfl #[] rfl (by (try simp only [List.map_toArray, List.map_cons, List.map_nil]); first | done | rfl | (simp only [List.length_drop, List.length_take]; rfl)) ?_; (with_reducible refine (bailiwicklaw02_examples.calls k  false _ A3.out).mono ?_); rintro e w23 ⟨rfl, hb⟩; refine ⟨_, rfl, ?_⟩; have n0_ := Aside0.mk (below_step (by repeat (first | (with_reducible first | exact HB.out | apply below_alloc | apply pw_below_drewN | apply below_drew1) | exact HB.out)) hb); clear HB; have HB := n0_; clear n0_; (try clear hb); (try clear hb2); (try clear hk); (try clear hi)))
    go_ret
    exact ⟨by first | rfl | (simp [errW_none, errW_some] <;> rfl) | (simp [*, errW_none, errW_some] <;> rfl), by repeat (first | (with_reducible first | exact HB.out | apply below_alloc | apply pw_below_drewN | apply below_drew1) | exact HB.out)⟩

/-- THE ONE PURE STATEMENT of bailiwicklaw02_LabelMatches: yours. -/
def bailiwicklaw02_LabelMatches.Pure : Prop := ∀ (a0 : ByteArray) (a1 : ByteArray), a0.size ≤ 140737488351232 → a1.size ≤ 140737488351232 → ∃ k, bailiwicklaw02_LabelMatches.f k a0 a1 = some true
theorem bailiwicklaw02_LabelMatches.walk (P : bailiwicklaw02_LabelMatches.Pure) (a0 : ByteArray) (a1 : ByteArray) (w : World) (w0 : a0.size ≤ 140737488351232) (w1 : a1.size ≤ 140737488351232) :
    Calls Tryd.prog 4 #[.string a0, .string a1] w fun e w' => e = .returned (.bool true) ∧ Below w.heap.size w w' := by
  obtain ⟨k, h⟩ := P a0 a1 w0 w1
  refine (bailiwicklaw02_LabelMatches.calls k a0 a1 true w h).mono ?_
  rintro e w' ⟨rfl, hd⟩
  exact ⟨rfl, hd⟩

/-! ### bailiwicklaw02_LabelFolds: function 5 -/
def bailiwicklaw02_LabelFolds.l0 : Nat → ByteArray → Bool → ByteArray → ByteArray → Bool → Int → Option (Bool)
  | 0, _, _, _, _, _, _ => none
  | k + 1, x0, x3, x4, x6, x7, x8 => if x8 < (x4.size : Int) then (if 0 ≤ x8 then (if (bt x4 x8) ≥ 65 then (if (bt x4 x8) ≤ 90 then (some false) else (bailiwicklaw02_LabelFolds.l0 k x0 x3 x4 x6 x7 (wrap64 (x8 + 1)))) else (bailiwicklaw02_LabelFolds.l0 k x0 x3 x4 x6 x7 (wrap64 (x8 + 1)))) else (none)) else (if x3 = true then (if x6.toList = x4.toList then (if x7 = true then (if (x4.size : Int) = (x0.size : Int) then ((Go.Proofs.YtipfiodeakapdaaDoor.R.Runes.f x4).bind fun t173 => ((Go.Proofs.YtipfiodeakapdaaDoor.R.Runes.f x0).bind fun t174 => (if t173 = t174 then ((Go.Proofs.YtipfiodeakapdaaDoor.R.Runes.f x4).bind fun t173 => (if t173 ≤ 16 then ((Go.Proofs.YtipfiodeakapdaaDoor.R.Runes.f x4).bind fun t173 => (some (decide (t173 ≥ 1)))) else (some false))) else (some false)))) else (some false)) else (some false)) else (some false)) else (some false))
def bailiwicklaw02_LabelFolds.f (k : Nat) (a0 : ByteArray) : Option (Bool) := (bailiwicklaw02_examples.f k).bind fun t167 => (if t167 = true then ((Go.Proofs.YtipfiodeakapdaaDoor.R.Fold.f a0).bind fun bt168 => ((Go.Proofs.YtipfiodeakapdaaDoor.R.Right.f a0).bind fun t170 => (if (bt168.2 != t170) = true then (some false) else (if bt168.2 = true then ((Go.Proofs.YtipfiodeakapdaaDoor.R.Fold.f bt168.1).bind fun bt171 => (bailiwicklaw02_LabelFolds.l0 k a0 t167 bt168.1 bt171.1 bt171.2 0)) else (some (bt168.1.toList == ([] : List UInt8))))))) else (some false))
theorem bailiwicklaw02_LabelFolds.mono_l : ∀ k, (∀ y0 y1 y2 y3 y4 y5, LeO (bailiwicklaw02_LabelFolds.l0 k y0 y1 y2 y3 y4 y5) (bailiwicklaw02_LabelFolds.l0 (k + 1) y0 y1 y2 y3 y4 y5))
  | 0 => fun _ _ _ _ _ _ r h => by simp [bailiwicklaw02_LabelFolds.l0] at h
  | k + 1 => by
    have ih0 := bailiwicklaw02_LabelFolds.mono_l k
    · intro y0 y1 y2 y3 y4 y5
      unfold bailiwicklaw02_LabelFolds.l0
      repeat' first
      | (with_reducible exact ih0 _ _ _ _ _ _)
      | (with_reducible exact bailiwicklaw02_examples.mono _)
      | (with_reducible exact LeO.refl _)
      | (with_reducible exact LeO.none _)
      | (with_reducible refine LeO.ite ?_ ?_)
      | (with_reducible refine LeO.bind ?_ (fun _ => ?_))
      | exact ih0 _ _ _ _ _ _
      | exact bailiwicklaw02_examples.mono _
      | exact LeO.none _
      | refine LeO.ite ?_ ?_
      | refine LeO.bind ?_ (fun _ => ?_)
theorem bailiwicklaw02_LabelFolds.mono : ∀ a0 k, LeO (bailiwicklaw02_LabelFolds.f k a0) (bailiwicklaw02_LabelFolds.f (k + 1) a0) := by
  intro a0 k
  have ih0 := bailiwicklaw02_LabelFolds.mono_l k
  unfold bailiwicklaw02_LabelFolds.f
  repeat' first
      | (with_reducible exact ih0 _ _ _ _ _ _)
      | (with_reducible exact bailiwicklaw02_examples.mono _)
      | (with_reducible exact LeO.refl _)
      | (with_reducible exact LeO.none _)
      | (with_reducible refine LeO.ite ?_ ?_)
      | (with_reducible refine LeO.bind ?_ (fun _ => ?_))
      | exact ih0 _ _ _ _ _ _
      | exact bailiwicklaw02_examples.mono _
      | exact LeO.none _
      | refine LeO.ite ?_ ?_
      | refine LeO.bind ?_ (fun _ => ?_)
set_option maxHeartbeats 8000000 in
set_option maxRecDepth 100000 in
theorem bailiwicklaw02_LabelFolds.calls (k : Nat) (a0 : ByteArray) (r : Bool) (w : World) (h : bailiwicklaw02_LabelFolds.f k a0 = some r) :
    Calls Tryd.prog 5 #[.string a0] w fun e w' => e = .returned (.bool r) ∧ Below w.heap.size w w' := by
  have HB := Aside0.mk (Below.refl w.heap.size w)
  have H : ((bailiwicklaw02_examples.f k).bind fun t167 => (if t167 = true then ((Go.Proofs.YtipfiodeakapdaaDoor.R.Fold.f a0).bind fun bt168 => ((Go.Proofs.YtipfiodeakapdaaDoor.R.Right.f a0).bind fun t170 => (if (bt168.2 != t170) = true then (some false) else (if bt168.2 = true then ((Go.Proofs.YtipfiodeakapdaaDoor.R.Fold.f bt168.1).bind fun bt171 => (bailiwicklaw02_LabelFolds.l0 k a0 t167 bt168.1 bt171.1 bt171.2 0)) else (some (bt168.1.toList == ([] : List UInt8))))))) else (some false))) = some r := h
  clear h
  replace H := Option.bind_eq_some_iff.mp H
  obtain ⟨t167, A20, H⟩ := H
  replace H : (if t167 = true then ((Go.Proofs.YtipfiodeakapdaaDoor.R.Fold.f a0).bind fun bt168 => ((Go.Proofs.YtipfiodeakapdaaDoor.R.Right.f a0).bind fun t170 => (if (bt168.2 != t170) = true then (some false) else (if bt168.2 = true then ((Go.Proofs.YtipfiodeakapdaaDoor.R.Fold.f bt168.1).bind fun bt171 => (bailiwicklaw02_LabelFolds.l0 k a0 t167 bt168.1 bt171.1 bt171.2 0)) else (some (bt168.1.toList == ([] : List UInt8))))))) else (some false)) = some r := H
  have A2 := Aside0.mk A20
  clear A20
  by_cases c3 : t167 = true
  · subst c3
    have H1 : ((Go.Proofs.YtipfiodeakapdaaDoor.R.Fold.f a0).bind fun bt168 => ((Go.Proofs.YtipfiodeakapdaaDoor.R.Right.f a0).bind fun t170 => (if (bt168.2 != t170) = true then (some false) else (if bt168.2 = true then ((Go.Proofs.YtipfiodeakapdaaDoor.R.Fold.f bt168.1).bind fun bt171 => (bailiwicklaw02_LabelFolds.l0 k a0 true bt168.1 bt171.1 bt171.2 0)) else (some (bt168.1.toList == ([] : List UInt8))))))) = some r := by first | (rw [if_pos rfl] at H; exact H) | (rw [if_pos trivial] at H; exact H)
    clear H
    have H := H1
    clear H1
    replace H := Option.bind_eq_some_iff.mp H
    obtain ⟨⟨t168, t169⟩, A40, H⟩ := H
    replace H : ((Go.Proofs.YtipfiodeakapdaaDoor.R.Right.f a0).bind fun t170 => (if (t169 != t170) = true then (some false) else (if t169 = true then ((Go.Proofs.YtipfiodeakapdaaDoor.R.Fold.f t168).bind fun bt171 => (bailiwicklaw02_LabelFolds.l0 k a0 true t168 bt171.1 bt171.2 0)) else (some (t168.toList == ([] : List UInt8)))))) = some r := H
    have A4 := Aside0.mk A40
    clear A40
    replace H := Option.bind_eq_some_iff.mp H
    obtain ⟨t170, A50, H⟩ := H
    replace H : (if (t169 != t170) = true then (some false) else (if t169 = true then ((Go.Proofs.YtipfiodeakapdaaDoor.R.Fold.f t168).bind fun bt171 => (bailiwicklaw02_LabelFolds.l0 k a0 true t168 bt171.1 bt171.2 0)) else (some (t168.toList == ([] : List UInt8))))) = some r := H
    have A5 := Aside0.mk A50
    clear A50
    by_cases c6 : (t169 != t170) = true
    · rw [if_pos c6] at H
      have c6b0 : (t169 != t170) = true := c6
      (try (have c6b1 : decide (t169 = t170) = false := by simpa using c6))
      (try (have c6b2 : (t169 == t170) = false := by simpa using c6))
      (try (have c6b3 : ¬ (t169 = t170) := by simpa using c6))
      clear c6
      obtain rfl := Option.some.inj H
      go_enter Tryd.func5, Tryd.ntmps5
      (try dsimp only [List.append])
      go_wp2_with (first | ((with_reducible refine gate_callee (f := 10) rfl ?_); refine goesL_ (some 9) rfl rfl Tryd.func10 (by kernel_rfl) rfl #[] rfl (by (try simp only [List.map_toArray, List.map_cons, List.map_nil]); first | done | rfl | (simp only [List.length_drop, List.length_take]; rfl)) ?_; (with_reducible refine (bailiwicklaw02_examples.calls k  true _ A2.out).mono ?_); rintro e w7 ⟨rfl, hb⟩; refine ⟨_, rfl, ?_⟩; have n0_ := Aside0.mk (below_step (by repeat (first | (with_reducible first | exact HB.out | apply below_alloc | apply pw_below_drewN | apply below_drew1) | exact HB.out)) hb); clear HB; have HB := n0_; clear n0_; (try clear hb); (try clear hb2); (try clear hk); (try clear hi)) | ((with_reducible refine gate_callee (f := 11) rfl ?_); refine goesL_ (some 14) rfl rfl Tryd.func11 (by kernel_rfl) rfl #[.string a0] rfl (by (try simp only [List.map_toArray, List.map_cons, List.map_nil]); first | done | rfl | (simp only [List.length_drop, List.length_take]; rfl)) ?_; (with_reducible refine (Go.Proofs.YtipfiodeakapdaaDoor.R.Fold.calls a0 t168 t169 _ A4.out).mono ?_); rintro e w8 ⟨rfl, hb⟩; refine ⟨_, rfl, ?_⟩; have n0_ := Aside0.mk (below_step (by repeat (first | (with_reducible first | exact HB.out | apply below_alloc | apply pw_below_drewN | apply below_drew1) | exact HB.out)) hb); clear HB; have HB := n0_; clear n0_; (try clear hb); (try clear hb2); (try clear hk); (try clear hi)) | ((with_reducible refine gate_callee (f := 15) rfl ?_); refine goesL_ (some 19) rfl rfl Tryd.func15 (by kernel_rfl) rfl #[.string a0] rfl (by (try simp only [List.map_toArray, List.map_cons, List.map_nil]); first | done | rfl | (simp only [List.length_drop, List.length_take]; rfl)) ?_; (with_reducible refine (Go.Proofs.YtipfiodeakapdaaDoor.R.Right.calls a0 t170 _ A5.out).mono ?_); rintro e w9 ⟨rfl, hb⟩; refine ⟨_, rfl, ?_⟩; have n0_ := Aside0.mk (below_step (by repeat (first | (with_reducible first | exact HB.out | apply below_alloc | apply pw_below_drewN | apply below_drew1) | exact HB.out)) hb); clear HB; have HB := n0_; clear n0_; (try clear hb); (try clear hb2); (try clear hk); (try clear hi)))
      go_ret
      exact ⟨by first | rfl | (simp [errW_none, errW_some] <;> rfl) | (simp [*, errW_none, errW_some] <;> rfl), by repeat (first | (with_reducible first | exact HB.out | apply below_alloc | apply pw_below_drewN | apply below_drew1) | exact HB.out)⟩
    · rw [if_neg c6] at H
      have c6b0 : (t169 != t170) = false := by simpa using c6
      (try (have c6b1 : decide (t169 = t170) = true := by simpa using c6))
      (try (have c6b2 : (t169 == t170) = true := by simpa using c6))
      clear c6
      by_cases c10 : t169 = true
      · subst c10
        have H1 : ((Go.Proofs.YtipfiodeakapdaaDoor.R.Fold.f t168).bind fun bt171 => (bailiwicklaw02_LabelFolds.l0 k a0 true t168 bt171.1 bt171.2 0)) = some r := by first | (rw [if_pos rfl] at H; exact H) | (rw [if_pos trivial] at H; exact H)
        clear H
        have H := H1
        clear H1
        replace H := Option.bind_eq_some_iff.mp H
        obtain ⟨⟨t171, t172⟩, A110, H⟩ := H
        replace H : (bailiwicklaw02_LabelFolds.l0 k a0 true t168 t171 t172 0) = some r := H
        have A11 := Aside0.mk A110
        clear A110
        have H' := Aside0.mk H
        clear H
        go_enter Tryd.func5, Tryd.ntmps5
        (try dsimp only [List.append])
        go_wp2_with (first | ((with_reducible refine gate_callee (f := 10) rfl ?_); refine goesL_ (some 9) rfl rfl Tryd.func10 (by kernel_rfl) rfl #[] rfl (by (try simp only [List.map_toArray, List.map_cons, List.map_nil]); first | done | rfl | (simp only [List.length_drop, List.length_take]; rfl)) ?_; (with_reducible refine (bailiwicklaw02_examples.calls k  true _ A2.out).mono ?_); rintro e w12 ⟨rfl, hb⟩; refine ⟨_, rfl, ?_⟩; have n0_ := Aside0.mk (below_step (by repeat (first | (with_reducible first | exact HB.out | apply below_alloc | apply pw_below_drewN | apply below_drew1) | exact HB.out)) hb); clear HB; have HB := n0_; clear n0_; (try clear hb); (try clear hb2); (try clear hk); (try clear hi)) | ((with_reducible refine gate_callee (f := 11) rfl ?_); refine goesL_ (some 14) rfl rfl Tryd.func11 (by kernel_rfl) rfl #[.string a0] rfl (by (try simp only [List.map_toArray, List.map_cons, List.map_nil]); first | done | rfl | (simp only [List.length_drop, List.length_take]; rfl)) ?_; (with_reducible refine (Go.Proofs.YtipfiodeakapdaaDoor.R.Fold.calls a0 t168 true _ A4.out).mono ?_); rintro e w13 ⟨rfl, hb⟩; refine ⟨_, rfl, ?_⟩; have n0_ := Aside0.mk (below_step (by repeat (first | (with_reducible first | exact HB.out | apply below_alloc | apply pw_below_drewN | apply below_drew1) | exact HB.out)) hb); clear HB; have HB := n0_; clear n0_; (try clear hb); (try clear hb2); (try clear hk); (try clear hi)) | ((with_reducible refine gate_callee (f := 15) rfl ?_); refine goesL_ (some 19) rfl rfl Tryd.func15 (by kernel_rfl) rfl #[.string a0] rfl (by (try simp only [List.map_toArray, List.map_cons, List.map_nil]); first | done | rfl | (simp only [List.length_drop, List.length_take]; rfl)) ?_; (with_reducible refine (Go.Proofs.YtipfiodeakapdaaDoor.R.Right.calls a0 t170 _ A5.out).mono ?_); rintro e w14 ⟨rfl, hb⟩; refine ⟨_, rfl, ?_⟩; have n0_ := Aside0.mk (below_step (by repeat (first | (with_reducible first | exact HB.out | apply below_alloc | apply pw_below_drewN | apply below_drew1) | exact HB.out)) hb); clear HB; have HB := n0_; clear n0_; (try clear hb); (try clear hb2); (try clear hk); (try clear hi)) | ((with_reducible refine gate_callee (f := 11) rfl ?_); refine goesL_ (some 30) rfl rfl Tryd.func11 (by kernel_rfl) rfl #[.string t168] rfl (by (try simp only [List.map_toArray, List.map_cons, List.map_nil]); first | done | rfl | (simp only [List.length_drop, List.length_take]; rfl)) ?_; (with_reducible refine (Go.Proofs.YtipfiodeakapdaaDoor.R.Fold.calls t168 t171 t172 _ A11.out).mono ?_); rintro e w15 ⟨rfl, hb⟩; refine ⟨_, rfl, ?_⟩; have n0_ := Aside0.mk (below_step (by repeat (first | (with_reducible first | exact HB.out | apply below_alloc | apply pw_below_drewN | apply below_drew1) | exact HB.out)) hb); clear HB; have HB := n0_; clear n0_; (try clear hb); (try clear hb2); (try clear hk); (try clear hi)))
        go_loopg [8] k (fun kq v8 w' => ∃ (x8_1 : Int), v8 = .int .i64 x8_1 ∧ Aside0 (bailiwicklaw02_LabelFolds.l0 kq a0 true t168 t171 t172 x8_1 = some r) ∧ Aside0 (kq ≤ k) ∧ Aside0 (Below w.heap.size w w'))
        case atStart => exact ⟨(0), (by first | rfl | (simp; done) | (simp [*]; done)), H', ⟨Nat.le_refl _⟩, ⟨by repeat (first | (with_reducible first | exact HB.out | apply below_alloc | apply pw_below_drewN | apply below_drew1) | exact HB.out)⟩⟩
        case round =>
          clear H'
          try clear c1
          try clear p2
          try clear c3
          try clear c5
          try clear c6
          try clear c6b0
          try clear c6b1
          try clear c6b2
          try clear c10
          try clear c11
          try clear c15
          obtain ⟨x8_1, rfl, HA, HK1, HB⟩ := hrel
          cases gk with
          | zero => exact absurd HA.out (by simp [bailiwicklaw02_LabelFolds.l0])
          | succ k1 =>
            have H := HA.out
            clear HA
            simp only [bailiwicklaw02_LabelFolds.l0] at H
            by_cases c16 : x8_1 < (t168.size : Int)
            · rw [if_pos c16] at H
              have c16b0 : decide (x8_1 < (t168.size : Int)) = true := decide_eq_true c16
              clear c16
              by_cases c17 : 0 ≤ x8_1
              · rw [if_pos c17] at H
                have c17b0 : decide (0 ≤ x8_1) = true := decide_eq_true c17
                clear c17
                by_cases c19 : (bt t168 x8_1) ≥ 65
                · rw [if_pos c19] at H
                  have c19b0 : decide (65 ≤ (bt t168 x8_1)) = true := decide_eq_true c19
                  clear c19
                  by_cases c21 : (bt t168 x8_1) ≤ 90
                  · rw [if_pos c21] at H
                    have c21b0 : decide ((bt t168 x8_1) ≤ 90) = true := decide_eq_true c21
                    clear c21
                    obtain rfl := Option.some.inj H
                    have p18 : 0 ≤ (x8_1 : Int) := of_decide_eq_true (by first | (with_reducible assumption) | assumption)
                    have q18 : x8_1 < (t168.size : Int) := of_decide_eq_true (by first | (with_reducible assumption) | assumption)
                    have hx18 := bt_at t168 x8_1
                    replace p18 := eq_true p18
                    replace q18 := eq_true q18
                    have p20 : 0 ≤ (x8_1 : Int) := of_decide_eq_true (by first | (with_reducible assumption) | assumption)
                    have q20 : x8_1 < (t168.size : Int) := of_decide_eq_true (by first | (with_reducible assumption) | assumption)
                    have hx20 := bt_at t168 x8_1
                    replace p20 := eq_true p20
                    replace q20 := eq_true q20
                    go_wp2
                    go_ret
                    exact ⟨by first | rfl | (simp [errW_none, errW_some] <;> rfl) | (simp [*, errW_none, errW_some] <;> rfl), by repeat (first | (with_reducible first | exact HB.out | apply below_alloc | apply pw_below_drewN | apply below_drew1) | exact HB.out)⟩
                  · rw [if_neg c21] at H
                    have c21b0 : decide ((bt t168 x8_1) ≤ 90) = false := decide_eq_false c21
                    clear c21
                    have H' := Aside0.mk H
                    clear H
                    have p18 : 0 ≤ (x8_1 : Int) := of_decide_eq_true (by first | (with_reducible assumption) | assumption)
                    have q18 : x8_1 < (t168.size : Int) := of_decide_eq_true (by first | (with_reducible assumption) | assumption)
                    have hx18 := bt_at t168 x8_1
                    replace p18 := eq_true p18
                    replace q18 := eq_true q18
                    have p20 : 0 ≤ (x8_1 : Int) := of_decide_eq_true (by first | (with_reducible assumption) | assumption)
                    have q20 : x8_1 < (t168.size : Int) := of_decide_eq_true (by first | (with_reducible assumption) | assumption)
                    have hx20 := bt_at t168 x8_1
                    replace p20 := eq_true p20
                    replace q20 := eq_true q20
                    go_wp2
                    go_roundg k1
                    case measure => have := HK1.out; omega
                    case rel => exact ⟨(wrap64 (x8_1 + 1)), (by first | rfl | (simp; done) | (simp [*]; done)), H', ⟨by have := HK1.out; omega⟩, ⟨by repeat (first | (with_reducible first | exact HB.out | apply below_alloc | apply pw_below_drewN | apply below_drew1) | exact HB.out)⟩⟩
                · rw [if_neg c19] at H
                  have c19b0 : decide (65 ≤ (bt t168 x8_1)) = false := decide_eq_false c19
                  clear c19
                  have H' := Aside0.mk H
                  clear H
                  have p18 : 0 ≤ (x8_1 : Int) := of_decide_eq_true (by first | (with_reducible assumption) | assumption)
                  have q18 : x8_1 < (t168.size : Int) := of_decide_eq_true (by first | (with_reducible assumption) | assumption)
                  have hx18 := bt_at t168 x8_1
                  replace p18 := eq_true p18
                  replace q18 := eq_true q18
                  go_wp2
                  go_roundg k1
                  case measure => have := HK1.out; omega
                  case rel => exact ⟨(wrap64 (x8_1 + 1)), (by first | rfl | (simp; done) | (simp [*]; done)), H', ⟨by have := HK1.out; omega⟩, ⟨by repeat (first | (with_reducible first | exact HB.out | apply below_alloc | apply pw_below_drewN | apply below_drew1) | exact HB.out)⟩⟩
              · rw [if_neg c17] at H
                exact absurd H (by simp)
            · rw [if_neg c16] at H
              have c16b0 : decide (x8_1 < (t168.size : Int)) = false := decide_eq_false c16
              clear c16
              by_cases c22 : true = true
              · clear c22
                have H1 : (if t171.toList = t168.toList then (if t172 = true then (if (t168.size : Int) = (a0.size : Int) then ((Go.Proofs.YtipfiodeakapdaaDoor.R.Runes.f t168).bind fun t173 => ((Go.Proofs.YtipfiodeakapdaaDoor.R.Runes.f a0).bind fun t174 => (if t173 = t174 then ((Go.Proofs.YtipfiodeakapdaaDoor.R.Runes.f t168).bind fun t173 => (if t173 ≤ 16 then ((Go.Proofs.YtipfiodeakapdaaDoor.R.Runes.f t168).bind fun t173 => (some (decide (t173 ≥ 1)))) else (some false))) else (some false)))) else (some false)) else (some false)) else (some false)) = some r := by first | (rw [if_pos rfl] at H; exact H) | (rw [if_pos trivial] at H; exact H)
                clear H
                have H := H1
                clear H1
                by_cases c23 : t171.toList = t168.toList
                · rw [if_pos c23] at H
                  have c23b0 : (t171.toList == t168.toList) = true := beq_iff_eq.mpr c23
                  have c23b1 : (t171.toList != t168.toList) = false := bne_eq_false_iff_eq.mpr c23
                  clear c23
                  by_cases c24 : t172 = true
                  · subst c24
                    have H1 : (if (t168.size : Int) = (a0.size : Int) then ((Go.Proofs.YtipfiodeakapdaaDoor.R.Runes.f t168).bind fun t173 => ((Go.Proofs.YtipfiodeakapdaaDoor.R.Runes.f a0).bind fun t174 => (if t173 = t174 then ((Go.Proofs.YtipfiodeakapdaaDoor.R.Runes.f t168).bind fun t173 => (if t173 ≤ 16 then ((Go.Proofs.YtipfiodeakapdaaDoor.R.Runes.f t168).bind fun t173 => (some (decide (t173 ≥ 1)))) else (some false))) else (some false)))) else (some false)) = some r := by first | (rw [if_pos rfl] at H; exact H) | (rw [if_pos trivial] at H; exact H)
                    clear H
                    have H := H1
                    clear H1
                    by_cases c25 : (t168.size : Int) = (a0.size : Int)
                    · rw [if_pos c25] at H
                      have c25b0 : ((t168.size : Int) == (a0.size : Int)) = true := beq_iff_eq.mpr c25
                      have c25b1 : ((t168.size : Int) != (a0.size : Int)) = false := bne_eq_false_iff_eq.mpr c25
                      have c25b2 : (t168.size == a0.size) = true := by first | simpa using c25 | (simp at c25 ⊢; omega)
                      clear c25
                      replace H := Option.bind_eq_some_iff.mp H
                      obtain ⟨t173, A260, H⟩ := H
                      replace H : ((Go.Proofs.YtipfiodeakapdaaDoor.R.Runes.f a0).bind fun t174 => (if t173 = t174 then ((Go.Proofs.YtipfiodeakapdaaDoor.R.Runes.f t168).bind fun t173 => (if t173 ≤ 16 then ((Go.Proofs.YtipfiodeakapdaaDoor.R.Runes.f t168).bind fun t173 => (some (decide (t173 ≥ 1)))) else (some false))) else (some false))) = some r := H
                      have A26 := Aside0.mk A260
                      clear A260
                      replace H := Option.bind_eq_some_iff.mp H
                      obtain ⟨t174, A270, H⟩ := H
                      replace H : (if t173 = t174 then ((Go.Proofs.YtipfiodeakapdaaDoor.R.Runes.f t168).bind fun t173 => (if t173 ≤ 16 then ((Go.Proofs.YtipfiodeakapdaaDoor.R.Runes.f t168).bind fun t173 => (some (decide (t173 ≥ 1)))) else (some false))) else (some false)) = some r := H
                      have A27 := Aside0.mk A270
                      clear A270
                      by_cases c28 : t173 = t174
                      · rw [if_pos c28] at H
                        have c28b0 : (t173 == t174) = true := beq_iff_eq.mpr c28
                        have c28b1 : (t173 != t174) = false := bne_eq_false_iff_eq.mpr c28
                        clear c28
                        replace H := Option.bind_eq_some_iff.mp H
                        obtain ⟨t173, A290, H⟩ := H
                        replace H : (if t173 ≤ 16 then ((Go.Proofs.YtipfiodeakapdaaDoor.R.Runes.f t168).bind fun t173 => (some (decide (t173 ≥ 1)))) else (some false)) = some r := H
                        have A29 := Aside0.mk A290
                        clear A290
                        obtain rfl := Option.some.inj (A29.out.symm.trans A26.out)
                        by_cases c30 : t173 ≤ 16
                        · rw [if_pos c30] at H
                          have c30b0 : decide (t173 ≤ 16) = true := decide_eq_true c30
                          clear c30
                          replace H := Option.bind_eq_some_iff.mp H
                          obtain ⟨t173, A310, H⟩ := H
                          replace H : (some (decide (t173 ≥ 1))) = some r := H
                          have A31 := Aside0.mk A310
                          clear A310
                          obtain rfl := Option.some.inj (A31.out.symm.trans A26.out)
                          obtain rfl := Option.some.inj H
                          go_wp2_with (first | (go_at_call 13; (with_reducible refine (Go.Proofs.YtipfiodeakapdaaDoor.R.Runes.calls t168 t173 _ A26.out).mono ?_); rintro e w32 ⟨rfl, hb⟩; have n0_ := Aside0.mk (below_step (by repeat (first | (with_reducible first | exact HB.out | apply below_alloc | apply pw_below_drewN | apply below_drew1) | exact HB.out)) hb); clear HB; have HB := n0_; clear n0_; (try clear hb); (try clear hb2); (try clear hk); (try clear hi)) | (go_at_call 13; (with_reducible refine (Go.Proofs.YtipfiodeakapdaaDoor.R.Runes.calls a0 t174 _ A27.out).mono ?_); rintro e w33 ⟨rfl, hb⟩; have n0_ := Aside0.mk (below_step (by repeat (first | (with_reducible first | exact HB.out | apply below_alloc | apply pw_below_drewN | apply below_drew1) | exact HB.out)) hb); clear HB; have HB := n0_; clear n0_; (try clear hb); (try clear hb2); (try clear hk); (try clear hi)) | (go_at_call 13; (with_reducible refine (Go.Proofs.YtipfiodeakapdaaDoor.R.Runes.calls t168 t173 _ A29.out).mono ?_); rintro e w34 ⟨rfl, hb⟩; have n0_ := Aside0.mk (below_step (by repeat (first | (with_reducible first | exact HB.out | apply below_alloc | apply pw_below_drewN | apply below_drew1) | exact HB.out)) hb); clear HB; have HB := n0_; clear n0_; (try clear hb); (try clear hb2); (try clear hk); (try clear hi)) | (go_at_call 13; (with_reducible refine (Go.Proofs.YtipfiodeakapdaaDoor.R.Runes.calls t168 t173 _ A31.out).mono ?_); rintro e w35 ⟨rfl, hb⟩; have n0_ := Aside0.mk (below_step (by repeat (first | (with_reducible first | exact HB.out | apply below_alloc | apply pw_below_drewN | apply below_drew1) | exact HB.out)) hb); clear HB; have HB := n0_; clear n0_; (try clear hb); (try clear hb2); (try clear hk); (try clear hi)))
                          go_ret
                          exact ⟨by first | rfl | (simp [errW_none, errW_some] <;> rfl) | (simp [*, errW_none, errW_some] <;> rfl), by repeat (first | (with_reducible first | exact HB.out | apply below_alloc | apply pw_below_drewN | apply below_drew1) | exact HB.out)⟩
                        · rw [if_neg c30] at H
                          have c30b0 : decide (t173 ≤ 16) = false := decide_eq_false c30
                          clear c30
                          obtain rfl := Option.some.inj H
                          go_wp2_with (first | (go_at_call 13; (with_reducible refine (Go.Proofs.YtipfiodeakapdaaDoor.R.Runes.calls t168 t173 _ A26.out).mono ?_); rintro e w36 ⟨rfl, hb⟩; have n0_ := Aside0.mk (below_step (by repeat (first | (with_reducible first | exact HB.out | apply below_alloc | apply pw_below_drewN | apply below_drew1) | exact HB.out)) hb); clear HB; have HB := n0_; clear n0_; (try clear hb); (try clear hb2); (try clear hk); (try clear hi)) | (go_at_call 13; (with_reducible refine (Go.Proofs.YtipfiodeakapdaaDoor.R.Runes.calls a0 t174 _ A27.out).mono ?_); rintro e w37 ⟨rfl, hb⟩; have n0_ := Aside0.mk (below_step (by repeat (first | (with_reducible first | exact HB.out | apply below_alloc | apply pw_below_drewN | apply below_drew1) | exact HB.out)) hb); clear HB; have HB := n0_; clear n0_; (try clear hb); (try clear hb2); (try clear hk); (try clear hi)) | (go_at_call 13; (with_reducible refine (Go.Proofs.YtipfiodeakapdaaDoor.R.Runes.calls t168 t173 _ A29.out).mono ?_); rintro e w38 ⟨rfl, hb⟩; have n0_ := Aside0.mk (below_step (by repeat (first | (with_reducible first | exact HB.out | apply below_alloc | apply pw_below_drewN | apply below_drew1) | exact HB.out)) hb); clear HB; have HB := n0_; clear n0_; (try clear hb); (try clear hb2); (try clear hk); (try clear hi)))
                          go_ret
                          exact ⟨by first | rfl | (simp [errW_none, errW_some] <;> rfl) | (simp [*, errW_none, errW_some] <;> rfl), by repeat (first | (with_reducible first | exact HB.out | apply below_alloc | apply pw_below_drewN | apply below_drew1) | exact HB.out)⟩
                      · rw [if_neg c28] at H
                        have c28b0 : (t173 == t174) = false := beq_eq_false_iff_ne.mpr c28
                        have c28b1 : (t173 != t174) = true := bne_iff_ne.mpr c28
                        obtain rfl := Option.some.inj H
                        go_wp2_with (first | (go_at_call 13; (with_reducible refine (Go.Proofs.YtipfiodeakapdaaDoor.R.Runes.calls t168 t173 _ A26.out).mono ?_); rintro e w39 ⟨rfl, hb⟩; have n0_ := Aside0.mk (below_step (by repeat (first | (with_reducible first | exact HB.out | apply below_alloc | apply pw_below_drewN | apply below_drew1) | exact HB.out)) hb); clear HB; have HB := n0_; clear n0_; (try clear hb); (try clear hb2); (try clear hk); (try clear hi)) | (go_at_call 13; (with_reducible refine (Go.Proofs.YtipfiodeakapdaaDoor.R.Runes.calls a0 t174 _ A27.out).mono ?_); rintro e w40 ⟨rfl, hb⟩; have n0_ := Aside0.mk (below_step (by repeat (first | (with_reducible first | exact HB.out | apply below_alloc | apply pw_below_drewN | apply below_drew1) | exact HB.out)) hb); clear HB; have HB := n0_; clear n0_; (try clear hb); (try clear hb2); (try clear hk); (try clear hi)))
                        go_ret
                        exact ⟨by first | rfl | (simp [errW_none, errW_some] <;> rfl) | (simp [*, errW_none, errW_some] <;> rfl), by repeat (first | (with_reducible first | exact HB.out | apply below_alloc | apply pw_below_drewN | apply below_drew1) | exact HB.out)⟩
                    · rw [if_neg c25] at H
                      have c25b0 : ((t168.size : Int) == (a0.size : Int)) = false := beq_eq_false_iff_ne.mpr c25
                      have c25b1 : ((t168.size : Int) != (a0.size : Int)) = true := bne_iff_ne.mpr c25
                      have c25b2 : (t168.size == a0.size) = false := by first | simpa using c25 | (simp at c25 ⊢; omega)
                      obtain rfl := Option.some.inj H
                      go_wp2
                      go_ret
                      exact ⟨by first | rfl | (simp [errW_none, errW_some] <;> rfl) | (simp [*, errW_none, errW_some] <;> rfl), by repeat (first | (with_reducible first | exact HB.out | apply below_alloc | apply pw_below_drewN | apply below_drew1) | exact HB.out)⟩
                  · replace c24 := Bool.eq_false_iff.mpr c24
                    subst c24
                    have H1 : (some false) = some r := by rw [if_neg (show ¬ (false = true) by decide)] at H; exact H
                    clear H
                    have H := H1
                    clear H1
                    obtain rfl := Option.some.inj H
                    go_wp2
                    go_ret
                    exact ⟨by first | rfl | (simp [errW_none, errW_some] <;> rfl) | (simp [*, errW_none, errW_some] <;> rfl), by repeat (first | (with_reducible first | exact HB.out | apply below_alloc | apply pw_below_drewN | apply below_drew1) | exact HB.out)⟩
                · rw [if_neg c23] at H
                  have c23b0 : (t171.toList == t168.toList) = false := beq_eq_false_iff_ne.mpr c23
                  have c23b1 : (t171.toList != t168.toList) = true := bne_iff_ne.mpr c23
                  obtain rfl := Option.some.inj H
                  go_wp2
                  go_ret
                  exact ⟨by first | rfl | (simp [errW_none, errW_some] <;> rfl) | (simp [*, errW_none, errW_some] <;> rfl), by repeat (first | (with_reducible first | exact HB.out | apply below_alloc | apply pw_below_drewN | apply below_drew1) | exact HB.out)⟩
              · exact absurd rfl c22
      · replace c10 := Bool.eq_false_iff.mpr c10
        subst c10
        have H1 : (some (t168.toList == ([] : List UInt8))) = some r := by rw [if_neg (show ¬ (false = true) by decide)] at H; exact H
        clear H
        have H := H1
        clear H1
        obtain rfl := Option.some.inj H
        go_enter Tryd.func5, Tryd.ntmps5
        (try dsimp only [List.append])
        go_wp2_with (first | ((with_reducible refine gate_callee (f := 10) rfl ?_); refine goesL_ (some 9) rfl rfl Tryd.func10 (by kernel_rfl) rfl #[] rfl (by (try simp only [List.map_toArray, List.map_cons, List.map_nil]); first | done | rfl | (simp only [List.length_drop, List.length_take]; rfl)) ?_; (with_reducible refine (bailiwicklaw02_examples.calls k  true _ A2.out).mono ?_); rintro e w41 ⟨rfl, hb⟩; refine ⟨_, rfl, ?_⟩; have n0_ := Aside0.mk (below_step (by repeat (first | (with_reducible first | exact HB.out | apply below_alloc | apply pw_below_drewN | apply below_drew1) | exact HB.out)) hb); clear HB; have HB := n0_; clear n0_; (try clear hb); (try clear hb2); (try clear hk); (try clear hi)) | ((with_reducible refine gate_callee (f := 11) rfl ?_); refine goesL_ (some 14) rfl rfl Tryd.func11 (by kernel_rfl) rfl #[.string a0] rfl (by (try simp only [List.map_toArray, List.map_cons, List.map_nil]); first | done | rfl | (simp only [List.length_drop, List.length_take]; rfl)) ?_; (with_reducible refine (Go.Proofs.YtipfiodeakapdaaDoor.R.Fold.calls a0 t168 false _ A4.out).mono ?_); rintro e w42 ⟨rfl, hb⟩; refine ⟨_, rfl, ?_⟩; have n0_ := Aside0.mk (below_step (by repeat (first | (with_reducible first | exact HB.out | apply below_alloc | apply pw_below_drewN | apply below_drew1) | exact HB.out)) hb); clear HB; have HB := n0_; clear n0_; (try clear hb); (try clear hb2); (try clear hk); (try clear hi)) | ((with_reducible refine gate_callee (f := 15) rfl ?_); refine goesL_ (some 19) rfl rfl Tryd.func15 (by kernel_rfl) rfl #[.string a0] rfl (by (try simp only [List.map_toArray, List.map_cons, List.map_nil]); first | done | rfl | (simp only [List.length_drop, List.length_take]; rfl)) ?_; (with_reducible refine (Go.Proofs.YtipfiodeakapdaaDoor.R.Right.calls a0 t170 _ A5.out).mono ?_); rintro e w43 ⟨rfl, hb⟩; refine ⟨_, rfl, ?_⟩; have n0_ := Aside0.mk (below_step (by repeat (first | (with_reducible first | exact HB.out | apply below_alloc | apply pw_below_drewN | apply below_drew1) | exact HB.out)) hb); clear HB; have HB := n0_; clear n0_; (try clear hb); (try clear hb2); (try clear hk); (try clear hi)))
        go_ret
        exact ⟨by first | rfl | (simp [errW_none, errW_some] <;> rfl) | (simp [*, errW_none, errW_some] <;> rfl), by repeat (first | (with_reducible first | exact HB.out | apply below_alloc | apply pw_below_drewN | apply below_drew1) | exact HB.out)⟩
  · replace c3 := Bool.eq_false_iff.mpr c3
    subst c3
    have H1 : (some false) = some r := by rw [if_neg (show ¬ (false = true) by decide)] at H; exact H
    clear H
    have H := H1
    clear H1
    obtain rfl := Option.some.inj H
    go_enter Tryd.func5, Tryd.ntmps5
    (try dsimp only [List.append])
    go_wp2_with (first | ((with_reducible refine gate_callee (f := 10) rfl ?_); refine goesL_ (some 9) rfl rfl Tryd.func10 (by kernel_rfl) rfl #[] rfl (by (try simp only [List.map_toArray, List.map_cons, List.map_nil]); first | done | rfl | (simp only [List.length_drop, List.length_take]; rfl)) ?_; (with_reducible refine (bailiwicklaw02_examples.calls k  false _ A2.out).mono ?_); rintro e w44 ⟨rfl, hb⟩; refine ⟨_, rfl, ?_⟩; have n0_ := Aside0.mk (below_step (by repeat (first | (with_reducible first | exact HB.out | apply below_alloc | apply pw_below_drewN | apply below_drew1) | exact HB.out)) hb); clear HB; have HB := n0_; clear n0_; (try clear hb); (try clear hb2); (try clear hk); (try clear hi)))
    go_ret
    exact ⟨by first | rfl | (simp [errW_none, errW_some] <;> rfl) | (simp [*, errW_none, errW_some] <;> rfl), by repeat (first | (with_reducible first | exact HB.out | apply below_alloc | apply pw_below_drewN | apply below_drew1) | exact HB.out)⟩

/-- THE ONE PURE STATEMENT of bailiwicklaw02_LabelFolds: yours. -/
def bailiwicklaw02_LabelFolds.Pure : Prop := ∀ (a0 : ByteArray), a0.size ≤ 140737488351232 → ∃ k, bailiwicklaw02_LabelFolds.f k a0 = some true
theorem bailiwicklaw02_LabelFolds.walk (P : bailiwicklaw02_LabelFolds.Pure) (a0 : ByteArray) (w : World) (w0 : a0.size ≤ 140737488351232) :
    Calls Tryd.prog 5 #[.string a0] w fun e w' => e = .returned (.bool true) ∧ Below w.heap.size w w' := by
  obtain ⟨k, h⟩ := P a0 w0
  refine (bailiwicklaw02_LabelFolds.calls k a0 true w h).mono ?_
  rintro e w' ⟨rfl, hd⟩
  exact ⟨rfl, hd⟩

end Go.Proofs.YtipfiodeakapdaaDoor.O
