-- Written by a program of this session (gp.py), which drives the print with some lines turned. Not trusted: Lean checks it.
import Derived.Test.YtipfiodeakapdaaDoorOx0
namespace Go.Proofs.YtipfiodeakapdaaDoor.O
open Go.RowKit Go.Proofs.YtipfiodeakapdaaDoorW.PrintWords Go.Proofs.YtipfiodeakapdaaDoorW.PrintLast Go.Proofs.YtipfiodeakapdaaDoorW.PrintMore
attribute [local go_sem] max2_int min2_int max_two min_two max_three min_three max_four min_four P.emod_u8 P.emod_u16 P.emod_u32
set_option linter.unusedVariables false
set_option linter.unusedSimpArgs false

-- PROVED BY HAND: function 13 (label_Runes)

-- PROVED BY HAND: function 25 (label_plain)

-- PROVED BY HAND: function 15 (label_Right)

-- NOT PRINTED: function 31 (abi_NoEscape)

-- NOT PRINTED: function 28 (strings_Builder_copyCheck)

-- NOT PRINTED: function 32 (utf8_appendRuneNonASCII)

-- NOT PRINTED: function 29 (utf8_AppendRune)

-- NOT PRINTED: function 22 (strings_Builder_WriteRune)

-- NOT PRINTED: function 23 (strings_Builder_String)

-- PROVED BY HAND: function 11 (label_Fold)

-- NOT PRINTED: function 36 (utf8_RuneCountInString)

-- NOT PRINTED: function 40 (utf8_decodeRuneInStringSlow)

-- NOT PRINTED: function 37 (utf8_DecodeRuneInString)

-- NOT PRINTED: function 33 (strings_explode)

-- NOT PRINTED: function 45 (bytealg_IndexByteString)

-- NOT PRINTED: function 41 (stringslite_IndexByte)

-- NOT PRINTED: function 42 (bytealg_IndexString)

-- NOT PRINTED: function 43 (bytealg_Cutover)

-- NOT PRINTED: function 46 (bytealg_hashStr_string)

-- NOT PRINTED: function 44 (bytealg_IndexRabinKarp_string)

-- NOT PRINTED: function 39 (stringslite_Index)

-- NOT PRINTED: function 35 (strings_Index)

-- NOT PRINTED: function 38 (bytealg_CountString)

-- NOT PRINTED: function 34 (strings_Count)

-- NOT PRINTED: function 30 (strings_genSplit)

-- NOT PRINTED: function 27 (strings_Split)

-- PROVED BY HAND: function 18 (label_Parts)

/-! ### label_Match: function 20 -/
mutual
def label_Match.j0 : Nat → List ByteArray → List ByteArray → Option (Bool)
  | 0, _, _ => none
  | k + 1, x5, x6 => if (x5.length : Int) = (x6.length : Int) then (label_Match.l0 k x6 x5 (x5.length : Int) 0) else (some false)
def label_Match.l0 : Nat → List ByteArray → List ByteArray → Int → Int → Option (Bool)
  | 0, _, _, _, _ => none
  | k + 1, x6, x37, x38, x39 => if x39 < x38 then (if 0 ≤ x39 then (if x39 < (x37.length : Int) then (if (rdOf ByteArray.empty x37 x39).toList = ([42] : List UInt8) then (label_Match.l0 k x6 x37 x38 (wrap64 (x39 + 1))) else (if x39 < (x6.length : Int) then (if (rdOf ByteArray.empty x37 x39).toList = (rdOf ByteArray.empty x6 x39).toList then (label_Match.l0 k x6 x37 x38 (wrap64 (x39 + 1))) else (some false)) else (none))) else (none)) else (none)) else (some true)
end
def label_Match.f (k : Nat) (a0 : ByteArray) (a1 : ByteArray) : Option (Bool) := (Go.Proofs.YtipfiodeakapdaaDoor.R.Parts.f a0).bind fun t101 => ((Go.Proofs.YtipfiodeakapdaaDoor.R.Parts.f a1).bind fun t104 => (if 0 ≤ (wrap64 ((t101.length : Int) - 1)) then (if (wrap64 ((t101.length : Int) - 1)) < (t101.length : Int) then (if (rdOf ByteArray.empty t101 (wrap64 ((t101.length : Int) - 1))).toList = ([42, 42] : List UInt8) then (if (t104.length : Int) ≤ (wrap64 ((t101.length : Int) - 1)) then (some false) else (if (wrap64 ((t101.length : Int) - 1)) ≤ (t101.length : Int) then (if (wrap64 ((t101.length : Int) - 1)) ≤ (t104.length : Int) then (label_Match.j0 k (t101.take ((wrap64 ((t101.length : Int) - 1)) : Int).toNat) (t104.take ((wrap64 ((t101.length : Int) - 1)) : Int).toNat)) else (none)) else (none))) else (label_Match.j0 k t101 t104)) else (none)) else (none)))
theorem label_Match.mono_l : ∀ k, (∀ y0 y1, LeO (label_Match.j0 k y0 y1) (label_Match.j0 (k + 1) y0 y1)) ∧ (∀ y0 y1 y2 y3, LeO (label_Match.l0 k y0 y1 y2 y3) (label_Match.l0 (k + 1) y0 y1 y2 y3))
  | 0 => ⟨fun _ _ r h => by simp [label_Match.j0] at h, fun _ _ _ _ r h => by simp [label_Match.l0] at h⟩
  | k + 1 => by
    obtain ⟨ih0, ih1⟩ := label_Match.mono_l k
    refine ⟨?_, ?_⟩
    · intro y0 y1
      unfold label_Match.j0
      repeat' first
      | (with_reducible exact ih0 _ _)
      | (with_reducible exact ih1 _ _ _ _)
      | (with_reducible exact LeO.refl _)
      | (with_reducible exact LeO.none _)
      | (with_reducible refine LeO.ite ?_ ?_)
      | (with_reducible refine LeO.bind ?_ (fun _ => ?_))
      | exact ih0 _ _
      | exact ih1 _ _ _ _
      | exact LeO.none _
      | refine LeO.ite ?_ ?_
      | refine LeO.bind ?_ (fun _ => ?_)
    · intro y0 y1 y2 y3
      unfold label_Match.l0
      repeat' first
      | (with_reducible exact ih0 _ _)
      | (with_reducible exact ih1 _ _ _ _)
      | (with_reducible exact LeO.refl _)
      | (with_reducible exact LeO.none _)
      | (with_reducible refine LeO.ite ?_ ?_)
      | (with_reducible refine LeO.bind ?_ (fun _ => ?_))
      | exact ih0 _ _
      | exact ih1 _ _ _ _
      | exact LeO.none _
      | refine LeO.ite ?_ ?_
      | refine LeO.bind ?_ (fun _ => ?_)
theorem label_Match.mono : ∀ a0 a1 k, LeO (label_Match.f k a0 a1) (label_Match.f (k + 1) a0 a1) := by
  intro a0 a1 k
  obtain ⟨ih0, ih1⟩ := label_Match.mono_l k
  unfold label_Match.f
  repeat' first
      | (with_reducible exact ih0 _ _)
      | (with_reducible exact ih1 _ _ _ _)
      | (with_reducible exact LeO.refl _)
      | (with_reducible exact LeO.none _)
      | (with_reducible refine LeO.ite ?_ ?_)
      | (with_reducible refine LeO.bind ?_ (fun _ => ?_))
      | exact ih0 _ _
      | exact ih1 _ _ _ _
      | exact LeO.none _
      | refine LeO.ite ?_ ?_
      | refine LeO.bind ?_ (fun _ => ?_)
set_option maxHeartbeats 8000000 in
set_option maxRecDepth 100000 in
theorem label_Match.calls (k : Nat) (a0 : ByteArray) (a1 : ByteArray) (r : Bool) (w : World) (h : label_Match.f k a0 a1 = some r) :
    Calls Tryd.prog 20 #[.string a0, .string a1] w fun e w' => e = .returned (.bool r) ∧ Below w.heap.size w w' := by
  have HB := Aside0.mk (Below.refl w.heap.size w)
  have H : ((Go.Proofs.YtipfiodeakapdaaDoor.R.Parts.f a0).bind fun t101 => ((Go.Proofs.YtipfiodeakapdaaDoor.R.Parts.f a1).bind fun t104 => (if 0 ≤ (wrap64 ((t101.length : Int) - 1)) then (if (wrap64 ((t101.length : Int) - 1)) < (t101.length : Int) then (if (rdOf ByteArray.empty t101 (wrap64 ((t101.length : Int) - 1))).toList = ([42, 42] : List UInt8) then (if (t104.length : Int) ≤ (wrap64 ((t101.length : Int) - 1)) then (some false) else (if (wrap64 ((t101.length : Int) - 1)) ≤ (t101.length : Int) then (if (wrap64 ((t101.length : Int) - 1)) ≤ (t104.length : Int) then (label_Match.j0 k (t101.take ((wrap64 ((t101.length : Int) - 1)) : Int).toNat) (t104.take ((wrap64 ((t101.length : Int) - 1)) : Int).toNat)) else (none)) else (none))) else (label_Match.j0 k t101 t104)) else (none)) else (none)))) = some r := h
  clear h
  replace H := Option.bind_eq_some_iff.mp H
  obtain ⟨t101, A30, H⟩ := H
  replace H : ((Go.Proofs.YtipfiodeakapdaaDoor.R.Parts.f a1).bind fun t104 => (if 0 ≤ (wrap64 ((t101.length : Int) - 1)) then (if (wrap64 ((t101.length : Int) - 1)) < (t101.length : Int) then (if (rdOf ByteArray.empty t101 (wrap64 ((t101.length : Int) - 1))).toList = ([42, 42] : List UInt8) then (if (t104.length : Int) ≤ (wrap64 ((t101.length : Int) - 1)) then (some false) else (if (wrap64 ((t101.length : Int) - 1)) ≤ (t101.length : Int) then (if (wrap64 ((t101.length : Int) - 1)) ≤ (t104.length : Int) then (label_Match.j0 k (t101.take ((wrap64 ((t101.length : Int) - 1)) : Int).toNat) (t104.take ((wrap64 ((t101.length : Int) - 1)) : Int).toNat)) else (none)) else (none))) else (label_Match.j0 k t101 t104)) else (none)) else (none))) = some r := H
  have A3 := Aside0.mk A30
  clear A30
  replace H := Option.bind_eq_some_iff.mp H
  obtain ⟨t104, A40, H⟩ := H
  replace H : (if 0 ≤ (wrap64 ((t101.length : Int) - 1)) then (if (wrap64 ((t101.length : Int) - 1)) < (t101.length : Int) then (if (rdOf ByteArray.empty t101 (wrap64 ((t101.length : Int) - 1))).toList = ([42, 42] : List UInt8) then (if (t104.length : Int) ≤ (wrap64 ((t101.length : Int) - 1)) then (some false) else (if (wrap64 ((t101.length : Int) - 1)) ≤ (t101.length : Int) then (if (wrap64 ((t101.length : Int) - 1)) ≤ (t104.length : Int) then (label_Match.j0 k (t101.take ((wrap64 ((t101.length : Int) - 1)) : Int).toNat) (t104.take ((wrap64 ((t101.length : Int) - 1)) : Int).toNat)) else (none)) else (none))) else (label_Match.j0 k t101 t104)) else (none)) else (none)) = some r := H
  have A4 := Aside0.mk A40
  clear A40
  obtain ⟨ji5, hji5⟩ : ∃ j_ : Int, (wrap64 ((t101.length : Int) - 1)) = j_ := ⟨_, rfl⟩
  replace H : (if 0 ≤ (ji5) then (if (ji5) < (t101.length : Int) then (if (rdOf ByteArray.empty t101 (ji5)).toList = ([42, 42] : List UInt8) then (if (t104.length : Int) ≤ (ji5) then (some false) else (if (ji5) ≤ (t101.length : Int) then (if (ji5) ≤ (t104.length : Int) then (label_Match.j0 k (t101.take ((ji5) : Int).toNat) (t104.take ((ji5) : Int).toNat)) else (none)) else (none))) else (label_Match.j0 k t101 t104)) else (none)) else (none)) = some r := by first | (rw [hji5] at H; exact H) | (simp only [hji5] at H ⊢; exact H)
  (try rw [hji5] at A3)
  (try rw [hji5] at A4)
  have hji5w : (IntKind.i64.wrap ((t101.length : Int) - 1)) = ji5 := (i64_w _).trans hji5
  by_cases c6 : 0 ≤ (ji5)
  · rw [if_pos c6] at H
    have c6b0 : decide (0 ≤ (ji5)) = true := decide_eq_true c6
    clear c6
    by_cases c7 : (ji5) < (t101.length : Int)
    · rw [if_pos c7] at H
      have c7b0 : decide ((ji5) < (t101.length : Int)) = true := decide_eq_true c7
      clear c7
      have HC8 := Aside0.mk H
      clear H
      go_enter Tryd.func20, Tryd.ntmps20
      (try dsimp only [List.append])
      go_upto_if 21 with (first | (go_at_call 18; (with_reducible refine (Go.Proofs.YtipfiodeakapdaaDoor.R.Parts.calls a0 t101 _ A3.out).mono ?_); rintro e w9 ⟨v102, rfl, ho0, hb⟩; have n0_ := Aside0.mk (Kd.R_lower ho0 (below_size (by repeat (first | (with_reducible first | exact HB.out | apply below_alloc | apply pw_below_drewN | apply below_drew1) | exact HB.out)))); have n1_ := Aside0.mk (below_step (by repeat (first | (with_reducible first | exact HB.out | apply below_alloc | apply pw_below_drewN | apply below_drew1) | exact HB.out)) hb); clear HB; have HO103 := n0_; have HB := n1_; clear n0_ n1_; (try clear hb); (try clear hb2); (try clear hk); (try clear hi); (try clear ho0)) | (go_at_call 18; (with_reducible refine (Go.Proofs.YtipfiodeakapdaaDoor.R.Parts.calls a1 t104 _ A4.out).mono ?_); rintro e w10 ⟨v105, rfl, ho0, hb⟩; have n0_ := Aside0.mk (Kd.R_elder' (by (with_reducible repeat (first | apply Kd.R_alloc | apply Kd.R_drewN | apply Kd.R_drew)); exact HO103.out) (Kd.R_base ho0) hb); have n1_ := Aside0.mk (Kd.R_lower (Kd.R_new' ho0 (Kd.R_lt (by (with_reducible repeat (first | apply Kd.R_alloc | apply Kd.R_drewN | apply Kd.R_drew)); exact HO103.out))) (below_size (by repeat (first | (with_reducible first | exact HB.out | apply below_alloc | apply pw_below_drewN | apply below_drew1) | exact HB.out)))); have n2_ := Aside0.mk (below_step (by repeat (first | (with_reducible first | exact HB.out | apply below_alloc | apply pw_below_drewN | apply below_drew1) | exact HB.out)) hb); clear HO103; clear HB; have HO103 := n0_; have HO106 := n1_; have HB := n2_; clear n0_ n1_ n2_; (try clear hb); (try clear hb2); (try clear hk); (try clear hi); (try clear ho0); obtain ⟨Ao11, co11, eo11⟩ := Kd.R_slice HO103.out; subst eo11; have p107 : 0 ≤ ((ji5) : Int) := of_decide_eq_true (by first | (with_reducible assumption) | assumption); have q107 : (ji5) < (t101.length : Int) := of_decide_eq_true (by first | (with_reducible assumption) | assumption); obtain ⟨ad107, e107, hx107_0⟩ := Kd.at_string (Kd.R_reads' HO103.out).2.2 (ji5) p107 q107; cases e107; replace p107 := eq_true p107; replace q107 := eq_true q107))
      repeat (go_quiet (first | (go_at_call 18; (with_reducible refine (Go.Proofs.YtipfiodeakapdaaDoor.R.Parts.calls a0 t101 _ A3.out).mono ?_); rintro e w9 ⟨v102, rfl, ho0, hb⟩; have n0_ := Aside0.mk (Kd.R_lower ho0 (below_size (by repeat (first | (with_reducible first | exact HB.out | apply below_alloc | apply pw_below_drewN | apply below_drew1) | exact HB.out)))); have n1_ := Aside0.mk (below_step (by repeat (first | (with_reducible first | exact HB.out | apply below_alloc | apply pw_below_drewN | apply below_drew1) | exact HB.out)) hb); clear HB; have HO103 := n0_; have HB := n1_; clear n0_ n1_; (try clear hb); (try clear hb2); (try clear hk); (try clear hi); (try clear ho0)) | (go_at_call 18; (with_reducible refine (Go.Proofs.YtipfiodeakapdaaDoor.R.Parts.calls a1 t104 _ A4.out).mono ?_); rintro e w10 ⟨v105, rfl, ho0, hb⟩; have n0_ := Aside0.mk (Kd.R_elder' (by (with_reducible repeat (first | apply Kd.R_alloc | apply Kd.R_drewN | apply Kd.R_drew)); exact HO103.out) (Kd.R_base ho0) hb); have n1_ := Aside0.mk (Kd.R_lower (Kd.R_new' ho0 (Kd.R_lt (by (with_reducible repeat (first | apply Kd.R_alloc | apply Kd.R_drewN | apply Kd.R_drew)); exact HO103.out))) (below_size (by repeat (first | (with_reducible first | exact HB.out | apply below_alloc | apply pw_below_drewN | apply below_drew1) | exact HB.out)))); have n2_ := Aside0.mk (below_step (by repeat (first | (with_reducible first | exact HB.out | apply below_alloc | apply pw_below_drewN | apply below_drew1) | exact HB.out)) hb); clear HO103; clear HB; have HO103 := n0_; have HO106 := n1_; have HB := n2_; clear n0_ n1_ n2_; (try clear hb); (try clear hb2); (try clear hk); (try clear hi); (try clear ho0); obtain ⟨Ao11, co11, eo11⟩ := Kd.R_slice HO103.out; subst eo11; have p107 : 0 ≤ ((ji5) : Int) := of_decide_eq_true (by first | (with_reducible assumption) | assumption); have q107 : (ji5) < (t101.length : Int) := of_decide_eq_true (by first | (with_reducible assumption) | assumption); obtain ⟨ad107, e107, hx107_0⟩ := Kd.at_string (Kd.R_reads' HO103.out).2.2 (ji5) p107 q107; cases e107; replace p107 := eq_true p107; replace q107 := eq_true q107)); go_upto_if 21 with (first | (go_at_call 18; (with_reducible refine (Go.Proofs.YtipfiodeakapdaaDoor.R.Parts.calls a0 t101 _ A3.out).mono ?_); rintro e w9 ⟨v102, rfl, ho0, hb⟩; have n0_ := Aside0.mk (Kd.R_lower ho0 (below_size (by repeat (first | (with_reducible first | exact HB.out | apply below_alloc | apply pw_below_drewN | apply below_drew1) | exact HB.out)))); have n1_ := Aside0.mk (below_step (by repeat (first | (with_reducible first | exact HB.out | apply below_alloc | apply pw_below_drewN | apply below_drew1) | exact HB.out)) hb); clear HB; have HO103 := n0_; have HB := n1_; clear n0_ n1_; (try clear hb); (try clear hb2); (try clear hk); (try clear hi); (try clear ho0)) | (go_at_call 18; (with_reducible refine (Go.Proofs.YtipfiodeakapdaaDoor.R.Parts.calls a1 t104 _ A4.out).mono ?_); rintro e w10 ⟨v105, rfl, ho0, hb⟩; have n0_ := Aside0.mk (Kd.R_elder' (by (with_reducible repeat (first | apply Kd.R_alloc | apply Kd.R_drewN | apply Kd.R_drew)); exact HO103.out) (Kd.R_base ho0) hb); have n1_ := Aside0.mk (Kd.R_lower (Kd.R_new' ho0 (Kd.R_lt (by (with_reducible repeat (first | apply Kd.R_alloc | apply Kd.R_drewN | apply Kd.R_drew)); exact HO103.out))) (below_size (by repeat (first | (with_reducible first | exact HB.out | apply below_alloc | apply pw_below_drewN | apply below_drew1) | exact HB.out)))); have n2_ := Aside0.mk (below_step (by repeat (first | (with_reducible first | exact HB.out | apply below_alloc | apply pw_below_drewN | apply below_drew1) | exact HB.out)) hb); clear HO103; clear HB; have HO103 := n0_; have HO106 := n1_; have HB := n2_; clear n0_ n1_ n2_; (try clear hb); (try clear hb2); (try clear hk); (try clear hi); (try clear ho0); obtain ⟨Ao11, co11, eo11⟩ := Kd.R_slice HO103.out; subst eo11; have p107 : 0 ≤ ((ji5) : Int) := of_decide_eq_true (by first | (with_reducible assumption) | assumption); have q107 : (ji5) < (t101.length : Int) := of_decide_eq_true (by first | (with_reducible assumption) | assumption); obtain ⟨ad107, e107, hx107_0⟩ := Kd.at_string (Kd.R_reads' HO103.out).2.2 (ji5) p107 q107; cases e107; replace p107 := eq_true p107; replace q107 := eq_true q107)))
      (try simp only [Act.put, List.setIfInBounds_toArray, List.set_cons_zero, List.set_cons_succ])
      go_cut [5, 6] (fun v5 v6 wc => ∃ (kq : Nat) (x5_7 : List ByteArray) (x6_7 : List ByteArray), Aside0 (label_Match.j0 kq x5_7 x6_7 = some r) ∧ Aside0 (kq ≤ k) ∧ Aside0 (Kd.R Kd.string 9 wc w.heap.size (fun k_ => some k_ ≠ (v6 : Value).ownBlock) v5 x5_7) ∧ Aside0 (Kd.R Kd.string 9 wc w.heap.size (fun k_ => some k_ ≠ (v5 : Value).ownBlock) v6 x6_7) ∧ Aside0 (Below w.heap.size w wc))
      case first =>
        have H := HC8.out
        clear HC8
        by_cases c12 : (rdOf ByteArray.empty t101 (ji5)).toList = ([42, 42] : List UInt8)
        · rw [if_pos c12] at H
          have c12b0 : ((rdOf ByteArray.empty t101 (ji5)).toList == ([42, 42] : List UInt8)) = true := beq_iff_eq.mpr c12
          have c12b1 : ((rdOf ByteArray.empty t101 (ji5)).toList != ([42, 42] : List UInt8)) = false := bne_eq_false_iff_eq.mpr c12
          clear c12
          (first | rw [c12b0] | (simp only [i64_w, i32_w]; rw [c12b0]) | skip)
          by_cases c13 : (t104.length : Int) ≤ (ji5)
          · rw [if_pos c13] at H
            have c13b0 : decide ((t104.length : Int) ≤ (ji5)) = true := decide_eq_true c13
            clear c13
            obtain rfl := Option.some.inj H
            obtain ⟨Ao14, co14, eo14⟩ := Kd.R_slice HO106.out
            subst eo14
            go_wp2
            repeat (go_quiet (fail); try go_wp2)
            go_ret
            exact ⟨by first | rfl | (simp [errW_none, errW_some] <;> rfl) | (simp only [← hji5]; first | rfl | (simp [errW_none, errW_some] <;> rfl)) | (simp [*, errW_none, errW_some] <;> rfl), by repeat (first | (with_reducible first | exact HB.out | apply below_alloc | apply pw_below_drewN | apply below_drew1) | exact HB.out)⟩
          · rw [if_neg c13] at H
            have c13b0 : decide ((t104.length : Int) ≤ (ji5)) = false := decide_eq_false c13
            clear c13
            by_cases c15 : (ji5) ≤ (t101.length : Int)
            · rw [if_pos c15] at H
              have c15b0 := eq_true c15
              have c15b1 : decide ((ji5) ≤ (t101.length : Int)) = true := decide_eq_true c15
              clear c15
              obtain ⟨y108, hy108⟩ : ∃ y_ : List ByteArray, y_ = (t101.take ((ji5) : Int).toNat) := ⟨_, rfl⟩
              replace H : (if (ji5) ≤ (t104.length : Int) then (label_Match.j0 k y108 (t104.take ((ji5) : Int).toNat)) else (none)) = some r := by first | (rw [hy108]; with_reducible exact H) | (have H2_ := (Option.bind_some _ _).symm.trans H; rw [hy108]; with_reducible exact H2_) | (have H2_ := (Option.bind_some _ _).symm.trans H; with_reducible exact H2_) | with_reducible exact H | (rw [hy108]; exact H) | exact H
              have Ny108 := Aside0.mk hy108
              clear hy108
              by_cases c16 : (ji5) ≤ (t104.length : Int)
              · rw [if_pos c16] at H
                have c16b0 := eq_true c16
                have c16b1 : decide ((ji5) ≤ (t104.length : Int)) = true := decide_eq_true c16
                clear c16
                obtain ⟨y111, hy111⟩ : ∃ y_ : List ByteArray, y_ = (t104.take ((ji5) : Int).toNat) := ⟨_, rfl⟩
                replace H : (label_Match.j0 k y108 y111) = some r := by first | (rw [hy111]; with_reducible exact H) | (have H2_ := (Option.bind_some _ _).symm.trans H; rw [hy111]; with_reducible exact H2_) | (have H2_ := (Option.bind_some _ _).symm.trans H; with_reducible exact H2_) | with_reducible exact H | (rw [hy111]; exact H) | exact H
                have Ny111 := Aside0.mk hy111
                clear hy111
                have H' := Aside0.mk H
                clear H
                obtain ⟨Ao17, co17, eo17⟩ := Kd.R_slice HO106.out
                subst eo17
                have q18 : ((ji5) : Int) ≤ ((t101.length : Int) : Int) := of_decide_eq_true (by first | (with_reducible assumption) | assumption)
                obtain ⟨i018, hi018, _, hsz18, _⟩ := info_parts info9
                have hcut18 := cut_to (P := Tryd.prog) 28 9 .i64 Tryd.underlying28 hi018 (some ad107) t101.length co11 (ji5) (of_decide_eq_true (by first | (with_reducible assumption) | assumption)) q18 (Kd.R_reads' HO103.out).2.1
                have hr18 := Kd.R_take (m := ((ji5) : Int).toNat) HO103.out (by omega)
                have hy18 : y108.length = ((ji5) : Int).toNat := (by rw [Ny108.out, List.length_take]; omega)
                rw [← Ny108.out] at hr18
                rw [← hy18] at hr18 hcut18
                clear hy18 hi018 hsz18 HO103
                have HO110 := Aside0.mk hr18
                clear hr18
                replace q18 := eq_true q18
                have q19 : ((ji5) : Int) ≤ ((t104.length : Int) : Int) := of_decide_eq_true (by first | (with_reducible assumption) | assumption)
                obtain ⟨i019, hi019, _, hsz19, _⟩ := info_parts info9
                have hcut19 := cut_to (P := Tryd.prog) 28 9 .i64 Tryd.underlying28 hi019 Ao17 t104.length co17 (ji5) (of_decide_eq_true (by first | (with_reducible assumption) | assumption)) q19 (Kd.R_reads' HO106.out).2.1
                have hr19 := Kd.R_take (m := ((ji5) : Int).toNat) HO106.out (by omega)
                have hy19 : y111.length = ((ji5) : Int).toNat := (by rw [Ny111.out, List.length_take]; omega)
                rw [← Ny111.out] at hr19
                rw [← hy19] at hr19 hcut19
                clear hy19 hi019 hsz19 HO106
                have HO113 := Aside0.mk hr19
                clear hr19
                replace q19 := eq_true q19
                go_wp2
                repeat (go_quiet (fail); try go_wp2)
                go_meet
                case rel => exact ⟨_, (y108), (y111), H', ⟨by first | omega | exact Nat.le_refl _⟩, ⟨by (with_reducible repeat (first | apply Kd.R_alloc | apply Kd.R_drewN | apply Kd.R_drew)); exact Kd.R_mono HO110.out (fun _ hk => by first | exact hk.2 | exact R.ob_len hk.2)⟩, ⟨by (with_reducible repeat (first | apply Kd.R_alloc | apply Kd.R_drewN | apply Kd.R_drew)); exact Kd.R_mono HO113.out (fun _ hk => by first | exact hk.2 | exact R.ob_len hk.2)⟩, ⟨by repeat (first | (with_reducible first | exact HB.out | apply below_alloc | apply pw_below_drewN | apply below_drew1) | exact HB.out)⟩⟩
              · rw [if_neg c16] at H
                exact absurd H (by simp)
            · rw [if_neg c15] at H
              exact absurd H (by simp)
        · rw [if_neg c12] at H
          have c12b0 : ((rdOf ByteArray.empty t101 (ji5)).toList == ([42, 42] : List UInt8)) = false := beq_eq_false_iff_ne.mpr c12
          have c12b1 : ((rdOf ByteArray.empty t101 (ji5)).toList != ([42, 42] : List UInt8)) = true := bne_iff_ne.mpr c12
          (first | rw [c12b0] | (simp only [i64_w, i32_w]; rw [c12b0]) | skip)
          have H' := Aside0.mk H
          clear H
          go_wp2
          repeat (go_quiet (fail); try go_wp2)
          go_meet
          case rel => exact ⟨_, (t101), (t104), H', ⟨by first | omega | exact Nat.le_refl _⟩, ⟨by (with_reducible repeat (first | apply Kd.R_alloc | apply Kd.R_drewN | apply Kd.R_drew)); exact Kd.R_mono HO103.out (fun _ hk => by first | exact hk.2 | exact R.ob_len hk.2)⟩, ⟨by (with_reducible repeat (first | apply Kd.R_alloc | apply Kd.R_drewN | apply Kd.R_drew)); exact Kd.R_mono HO106.out (fun _ hk => by first | exact hk.2 | exact R.ob_len hk.2)⟩, ⟨by repeat (first | (with_reducible first | exact HB.out | apply below_alloc | apply pw_below_drewN | apply below_drew1) | exact HB.out)⟩⟩
      case rest =>
        clear HC8
        try clear c1
        try clear p1
        try clear q1
        try clear hx1
        try clear c2
        try clear p2
        try clear c6
        try clear c6b0
        try clear p6
        try clear c7
        try clear c7b0
        try clear p10
        try clear q10
        try clear hx10
        try clear c12
        try clear c12b0
        try clear c12b1
        try clear c13
        try clear c13b0
        try clear c15
        try clear c15b0
        try clear c15b1
        try clear c16
        try clear c16b0
        try clear c16b1
        try clear q18
        try clear q19
        try clear hx107_0
        try clear p107
        try clear q107
        try clear q18
        try clear q19
        obtain ⟨kq, x5_7, x6_7, HA, HJ7, HO_5, HO_6, HB⟩ := hcut
        cases kq with
        | zero => exact absurd HA.out (by simp [label_Match.j0])
        | succ kj7 =>
          have H := HA.out
          clear HA
          simp only [label_Match.j0] at H
          by_cases c20 : (x5_7.length : Int) = (x6_7.length : Int)
          · rw [if_pos c20] at H
            have c20b0 : ((x5_7.length : Int) == (x6_7.length : Int)) = true := beq_iff_eq.mpr c20
            have c20b1 : ((x5_7.length : Int) != (x6_7.length : Int)) = false := bne_eq_false_iff_eq.mpr c20
            have c20b2 : (x5_7.length == x6_7.length) = true := by first | simpa using c20 | (simp at c20 ⊢; omega)
            clear c20
            have H' := Aside0.mk H
            clear H
            obtain ⟨Ao21, co21, eo21⟩ := Kd.R_slice HO_5.out
            subst eo21
            obtain ⟨Ao22, co22, eo22⟩ := Kd.R_slice HO_6.out
            subst eo22
            go_wp2
            repeat (go_quiet (fail); try go_wp2)
            go_loopg [39] kj7 (fun kq v39 w' => ∃ (x39_2 : Int), v39 = .int .i64 x39_2 ∧ Aside0 (label_Match.l0 kq x6_7 x5_7 (x5_7.length : Int) x39_2 = some r) ∧ Aside0 (kq ≤ kj7) ∧ Aside0 (Kd.R Kd.string 9 w' w.heap.size (fun k_ => some k_ ≠ ((.slice Ao21 x5_7.length co21) : Value).ownBlock) (.slice Ao22 x6_7.length co22) x6_7) ∧ Aside0 (Kd.R Kd.string 9 w' w.heap.size (fun k_ => some k_ ≠ ((.slice Ao22 x6_7.length co22) : Value).ownBlock) (.slice Ao21 x5_7.length co21) x5_7) ∧ Aside0 (Below w.heap.size w w'))
            case atStart => exact ⟨(0), (by first | rfl | (simp; done) | (simp [*]; done)), H', ⟨Nat.le_refl _⟩, ⟨by (with_reducible repeat (first | apply Kd.R_alloc | apply Kd.R_drewN | apply Kd.R_drew)); exact HO_6.out⟩, ⟨by (with_reducible repeat (first | apply Kd.R_alloc | apply Kd.R_drewN | apply Kd.R_drew)); exact HO_5.out⟩, ⟨by repeat (first | (with_reducible first | exact HB.out | apply below_alloc | apply pw_below_drewN | apply below_drew1) | exact HB.out)⟩⟩
            case round =>
              clear H'
              try clear c1
              try clear p1
              try clear q1
              try clear hx1
              try clear c2
              try clear p2
              try clear c6
              try clear c6b0
              try clear p6
              try clear c7
              try clear c7b0
              try clear p10
              try clear q10
              try clear hx10
              try clear c12
              try clear c12b0
              try clear c12b1
              try clear c13
              try clear c13b0
              try clear c15
              try clear c15b0
              try clear c15b1
              try clear c16
              try clear c16b0
              try clear c16b1
              try clear q18
              try clear q19
              try clear c20
              try clear c20b0
              try clear c20b1
              try clear c20b2
              try clear hx107_0
              try clear p1
              try clear p10
              try clear p107
              try clear p2
              try clear p6
              try clear q1
              try clear q10
              try clear q107
              try clear q18
              try clear q19
              obtain ⟨x39_2, rfl, HA, HK2, HO_6, HO_37, HB⟩ := hrel
              cases gk with
              | zero => exact absurd HA.out (by simp [label_Match.l0])
              | succ k2 =>
                have H := HA.out
                clear HA
                simp only [label_Match.l0] at H
                by_cases c23 : x39_2 < (x5_7.length : Int)
                · rw [if_pos c23] at H
                  have c23b0 : decide (x39_2 < (x5_7.length : Int)) = true := decide_eq_true c23
                  clear c23
                  by_cases c24 : 0 ≤ x39_2
                  · rw [if_pos c24] at H
                    have c24b0 : decide (0 ≤ x39_2) = true := decide_eq_true c24
                    clear c24
                    by_cases c25 : x39_2 < (x5_7.length : Int)
                    · rw [if_pos c25] at H
                      have c25b0 : decide (x39_2 < (x5_7.length : Int)) = true := decide_eq_true c25
                      clear c25
                      by_cases c26 : (rdOf ByteArray.empty x5_7 x39_2).toList = ([42] : List UInt8)
                      · rw [if_pos c26] at H
                        have c26b0 : ((rdOf ByteArray.empty x5_7 x39_2).toList == ([42] : List UInt8)) = true := beq_iff_eq.mpr c26
                        have c26b1 : ((rdOf ByteArray.empty x5_7 x39_2).toList != ([42] : List UInt8)) = false := bne_eq_false_iff_eq.mpr c26
                        clear c26
                        have H' := Aside0.mk H
                        clear H
                        have p114 : 0 ≤ (x39_2 : Int) := of_decide_eq_true (by first | (with_reducible assumption) | assumption)
                        have q114 : x39_2 < (x5_7.length : Int) := of_decide_eq_true (by first | (with_reducible assumption) | assumption)
                        obtain ⟨ad114, e114, hx114_0⟩ := Kd.at_string (Kd.R_reads' HO_37.out).2.2 x39_2 p114 q114
                        cases e114
                        replace p114 := eq_true p114
                        replace q114 := eq_true q114
                        go_wp2
                        repeat (go_quiet (fail); try go_wp2)
                        go_roundg k2
                        case measure => have := HJ7.out; have := HK2.out; omega
                        case rel => exact ⟨(wrap64 (x39_2 + 1)), (by first | rfl | (simp; done) | (simp [*]; done)), H', ⟨by have := HJ7.out; have := HK2.out; omega⟩, ⟨by (with_reducible repeat (first | apply Kd.R_alloc | apply Kd.R_drewN | apply Kd.R_drew)); exact HO_6.out⟩, ⟨by (with_reducible repeat (first | apply Kd.R_alloc | apply Kd.R_drewN | apply Kd.R_drew)); exact HO_37.out⟩, ⟨by repeat (first | (with_reducible first | exact HB.out | apply below_alloc | apply pw_below_drewN | apply below_drew1) | exact HB.out)⟩⟩
                      · rw [if_neg c26] at H
                        have c26b0 : ((rdOf ByteArray.empty x5_7 x39_2).toList == ([42] : List UInt8)) = false := beq_eq_false_iff_ne.mpr c26
                        have c26b1 : ((rdOf ByteArray.empty x5_7 x39_2).toList != ([42] : List UInt8)) = true := bne_iff_ne.mpr c26
                        by_cases c27 : x39_2 < (x6_7.length : Int)
                        · rw [if_pos c27] at H
                          have c27b0 : decide (x39_2 < (x6_7.length : Int)) = true := decide_eq_true c27
                          clear c27
                          by_cases c28 : (rdOf ByteArray.empty x5_7 x39_2).toList = (rdOf ByteArray.empty x6_7 x39_2).toList
                          · rw [if_pos c28] at H
                            have c28b0 : ((rdOf ByteArray.empty x5_7 x39_2).toList == (rdOf ByteArray.empty x6_7 x39_2).toList) = true := beq_iff_eq.mpr c28
                            have c28b1 : ((rdOf ByteArray.empty x5_7 x39_2).toList != (rdOf ByteArray.empty x6_7 x39_2).toList) = false := bne_eq_false_iff_eq.mpr c28
                            clear c28
                            have H' := Aside0.mk H
                            clear H
                            have p114 : 0 ≤ (x39_2 : Int) := of_decide_eq_true (by first | (with_reducible assumption) | assumption)
                            have q114 : x39_2 < (x5_7.length : Int) := of_decide_eq_true (by first | (with_reducible assumption) | assumption)
                            obtain ⟨ad114, e114, hx114_0⟩ := Kd.at_string (Kd.R_reads' HO_37.out).2.2 x39_2 p114 q114
                            cases e114
                            replace p114 := eq_true p114
                            replace q114 := eq_true q114
                            have p115 : 0 ≤ (x39_2 : Int) := of_decide_eq_true (by first | (with_reducible assumption) | assumption)
                            have q115 : x39_2 < (x6_7.length : Int) := of_decide_eq_true (by first | (with_reducible assumption) | assumption)
                            obtain ⟨ad115, e115, hx115_0⟩ := Kd.at_string (Kd.R_reads' HO_6.out).2.2 x39_2 p115 q115
                            cases e115
                            replace p115 := eq_true p115
                            replace q115 := eq_true q115
                            go_wp2
                            repeat (go_quiet (fail); try go_wp2)
                            go_roundg k2
                            case measure => have := HJ7.out; have := HK2.out; omega
                            case rel => exact ⟨(wrap64 (x39_2 + 1)), (by first | rfl | (simp; done) | (simp [*]; done)), H', ⟨by have := HJ7.out; have := HK2.out; omega⟩, ⟨by (with_reducible repeat (first | apply Kd.R_alloc | apply Kd.R_drewN | apply Kd.R_drew)); exact HO_6.out⟩, ⟨by (with_reducible repeat (first | apply Kd.R_alloc | apply Kd.R_drewN | apply Kd.R_drew)); exact HO_37.out⟩, ⟨by repeat (first | (with_reducible first | exact HB.out | apply below_alloc | apply pw_below_drewN | apply below_drew1) | exact HB.out)⟩⟩
                          · rw [if_neg c28] at H
                            have c28b0 : ((rdOf ByteArray.empty x5_7 x39_2).toList == (rdOf ByteArray.empty x6_7 x39_2).toList) = false := beq_eq_false_iff_ne.mpr c28
                            have c28b1 : ((rdOf ByteArray.empty x5_7 x39_2).toList != (rdOf ByteArray.empty x6_7 x39_2).toList) = true := bne_iff_ne.mpr c28
                            obtain rfl := Option.some.inj H
                            have p114 : 0 ≤ (x39_2 : Int) := of_decide_eq_true (by first | (with_reducible assumption) | assumption)
                            have q114 : x39_2 < (x5_7.length : Int) := of_decide_eq_true (by first | (with_reducible assumption) | assumption)
                            obtain ⟨ad114, e114, hx114_0⟩ := Kd.at_string (Kd.R_reads' HO_37.out).2.2 x39_2 p114 q114
                            cases e114
                            replace p114 := eq_true p114
                            replace q114 := eq_true q114
                            have p115 : 0 ≤ (x39_2 : Int) := of_decide_eq_true (by first | (with_reducible assumption) | assumption)
                            have q115 : x39_2 < (x6_7.length : Int) := of_decide_eq_true (by first | (with_reducible assumption) | assumption)
                            obtain ⟨ad115, e115, hx115_0⟩ := Kd.at_string (Kd.R_reads' HO_6.out).2.2 x39_2 p115 q115
                            cases e115
                            replace p115 := eq_true p115
                            replace q115 := eq_true q115
                            go_wp2
                            repeat (go_quiet (fail); try go_wp2)
                            go_ret
                            exact ⟨by first | rfl | (simp [errW_none, errW_some] <;> rfl) | (simp only [← hji5]; first | rfl | (simp [errW_none, errW_some] <;> rfl)) | (simp [*, errW_none, errW_some] <;> rfl), by repeat (first | (with_reducible first | exact HB.out | apply below_alloc | apply pw_below_drewN | apply below_drew1) | exact HB.out)⟩
                        · rw [if_neg c27] at H
                          exact absurd H (by simp)
                    · rw [if_neg c25] at H
                      exact absurd H (by simp)
                  · rw [if_neg c24] at H
                    exact absurd H (by simp)
                · rw [if_neg c23] at H
                  have c23b0 : decide (x39_2 < (x5_7.length : Int)) = false := decide_eq_false c23
                  clear c23
                  obtain rfl := Option.some.inj H
                  go_wp2
                  repeat (go_quiet (fail); try go_wp2)
                  go_ret
                  exact ⟨by first | rfl | (simp [errW_none, errW_some] <;> rfl) | (simp only [← hji5]; first | rfl | (simp [errW_none, errW_some] <;> rfl)) | (simp [*, errW_none, errW_some] <;> rfl), by repeat (first | (with_reducible first | exact HB.out | apply below_alloc | apply pw_below_drewN | apply below_drew1) | exact HB.out)⟩
          · rw [if_neg c20] at H
            have c20b0 : ((x5_7.length : Int) == (x6_7.length : Int)) = false := beq_eq_false_iff_ne.mpr c20
            have c20b1 : ((x5_7.length : Int) != (x6_7.length : Int)) = true := bne_iff_ne.mpr c20
            have c20b2 : (x5_7.length == x6_7.length) = false := by first | simpa using c20 | (simp at c20 ⊢; omega)
            obtain rfl := Option.some.inj H
            obtain ⟨Ao29, co29, eo29⟩ := Kd.R_slice HO_5.out
            subst eo29
            obtain ⟨Ao30, co30, eo30⟩ := Kd.R_slice HO_6.out
            subst eo30
            go_wp2
            repeat (go_quiet (fail); try go_wp2)
            go_ret
            exact ⟨by first | rfl | (simp [errW_none, errW_some] <;> rfl) | (simp only [← hji5]; first | rfl | (simp [errW_none, errW_some] <;> rfl)) | (simp [*, errW_none, errW_some] <;> rfl), by repeat (first | (with_reducible first | exact HB.out | apply below_alloc | apply pw_below_drewN | apply below_drew1) | exact HB.out)⟩
    · rw [if_neg c7] at H
      exact absurd H (by simp)
  · rw [if_neg c6] at H
    exact absurd H (by simp)

/-! ### bailiwicklaw02_examples: function 10 -/
def bailiwicklaw02_examples.f (k : Nat)  : Option (Bool) := (Go.Proofs.YtipfiodeakapdaaDoor.R.Fold.f (⟨#[65, 108, 105, 99, 101, 46, 83, 109, 105, 116, 104]⟩ : ByteArray)).bind fun bt116 => (if bt116.1.toList = ([97, 108, 105, 99, 101, 46, 115, 109, 105, 116, 104] : List UInt8) then (if bt116.2 = true then ((Go.Proofs.YtipfiodeakapdaaDoor.R.Right.f (⟨#[97, 46, 46, 98]⟩ : ByteArray)).bind fun t118 => (if t118 = true then (some false) else ((label_Match.f k (⟨#[97, 46, 42]⟩ : ByteArray) (⟨#[97, 46, 98]⟩ : ByteArray)).bind fun t119 => (if t119 = true then ((label_Match.f k (⟨#[97, 46, 42, 42]⟩ : ByteArray) (⟨#[97]⟩ : ByteArray)).bind fun t120 => (if t120 = true then (some false) else ((Go.Proofs.YtipfiodeakapdaaDoor.R.Runes.f (⟨#[195, 164, 98]⟩ : ByteArray)).bind fun t121 => (some (t121 == 2))))) else (some false))))) else (some false)) else (some false))
theorem bailiwicklaw02_examples.mono : ∀ k, LeO (bailiwicklaw02_examples.f k ) (bailiwicklaw02_examples.f (k + 1) ) := by
  intro  k
  unfold bailiwicklaw02_examples.f
  repeat' first
      | (with_reducible exact label_Match.mono _ _ _)
      | (with_reducible exact LeO.refl _)
      | (with_reducible exact LeO.none _)
      | (with_reducible refine LeO.ite ?_ ?_)
      | (with_reducible refine LeO.bind ?_ (fun _ => ?_))
      | exact label_Match.mono _ _ _
      | exact LeO.none _
      | refine LeO.ite ?_ ?_
      | refine LeO.bind ?_ (fun _ => ?_)
set_option maxHeartbeats 8000000 in
set_option maxRecDepth 100000 in
theorem bailiwicklaw02_examples.calls (k : Nat)  (r : Bool) (w : World) (h : bailiwicklaw02_examples.f k  = some r) :
    Calls Tryd.prog 10 #[] w fun e w' => e = .returned (.bool r) ∧ Below w.heap.size w w' := by
  have HB := Aside0.mk (Below.refl w.heap.size w)
  have H : ((Go.Proofs.YtipfiodeakapdaaDoor.R.Fold.f (⟨#[65, 108, 105, 99, 101, 46, 83, 109, 105, 116, 104]⟩ : ByteArray)).bind fun bt116 => (if bt116.1.toList = ([97, 108, 105, 99, 101, 46, 115, 109, 105, 116, 104] : List UInt8) then (if bt116.2 = true then ((Go.Proofs.YtipfiodeakapdaaDoor.R.Right.f (⟨#[97, 46, 46, 98]⟩ : ByteArray)).bind fun t118 => (if t118 = true then (some false) else ((label_Match.f k (⟨#[97, 46, 42]⟩ : ByteArray) (⟨#[97, 46, 98]⟩ : ByteArray)).bind fun t119 => (if t119 = true then ((label_Match.f k (⟨#[97, 46, 42, 42]⟩ : ByteArray) (⟨#[97]⟩ : ByteArray)).bind fun t120 => (if t120 = true then (some false) else ((Go.Proofs.YtipfiodeakapdaaDoor.R.Runes.f (⟨#[195, 164, 98]⟩ : ByteArray)).bind fun t121 => (some (t121 == 2))))) else (some false))))) else (some false)) else (some false))) = some r := h
  clear h
  replace H := Option.bind_eq_some_iff.mp H
  obtain ⟨⟨t116, t117⟩, A10, H⟩ := H
  replace H : (if t116.toList = ([97, 108, 105, 99, 101, 46, 115, 109, 105, 116, 104] : List UInt8) then (if t117 = true then ((Go.Proofs.YtipfiodeakapdaaDoor.R.Right.f (⟨#[97, 46, 46, 98]⟩ : ByteArray)).bind fun t118 => (if t118 = true then (some false) else ((label_Match.f k (⟨#[97, 46, 42]⟩ : ByteArray) (⟨#[97, 46, 98]⟩ : ByteArray)).bind fun t119 => (if t119 = true then ((label_Match.f k (⟨#[97, 46, 42, 42]⟩ : ByteArray) (⟨#[97]⟩ : ByteArray)).bind fun t120 => (if t120 = true then (some false) else ((Go.Proofs.YtipfiodeakapdaaDoor.R.Runes.f (⟨#[195, 164, 98]⟩ : ByteArray)).bind fun t121 => (some (t121 == 2))))) else (some false))))) else (some false)) else (some false)) = some r := H
  have A1 := Aside0.mk A10
  clear A10
  by_cases c2 : t116.toList = ([97, 108, 105, 99, 101, 46, 115, 109, 105, 116, 104] : List UInt8)
  · rw [if_pos c2] at H
    have c2b0 : (t116.toList == ([97, 108, 105, 99, 101, 46, 115, 109, 105, 116, 104] : List UInt8)) = true := beq_iff_eq.mpr c2
    have c2b1 : (t116.toList != ([97, 108, 105, 99, 101, 46, 115, 109, 105, 116, 104] : List UInt8)) = false := bne_eq_false_iff_eq.mpr c2
    clear c2
    by_cases c3 : t117 = true
    · subst c3
      have H1 : ((Go.Proofs.YtipfiodeakapdaaDoor.R.Right.f (⟨#[97, 46, 46, 98]⟩ : ByteArray)).bind fun t118 => (if t118 = true then (some false) else ((label_Match.f k (⟨#[97, 46, 42]⟩ : ByteArray) (⟨#[97, 46, 98]⟩ : ByteArray)).bind fun t119 => (if t119 = true then ((label_Match.f k (⟨#[97, 46, 42, 42]⟩ : ByteArray) (⟨#[97]⟩ : ByteArray)).bind fun t120 => (if t120 = true then (some false) else ((Go.Proofs.YtipfiodeakapdaaDoor.R.Runes.f (⟨#[195, 164, 98]⟩ : ByteArray)).bind fun t121 => (some (t121 == 2))))) else (some false))))) = some r := by rw [if_pos rfl] at H; exact H
      clear H
      have H := H1
      clear H1
      replace H := Option.bind_eq_some_iff.mp H
      obtain ⟨t118, A40, H⟩ := H
      replace H : (if t118 = true then (some false) else ((label_Match.f k (⟨#[97, 46, 42]⟩ : ByteArray) (⟨#[97, 46, 98]⟩ : ByteArray)).bind fun t119 => (if t119 = true then ((label_Match.f k (⟨#[97, 46, 42, 42]⟩ : ByteArray) (⟨#[97]⟩ : ByteArray)).bind fun t120 => (if t120 = true then (some false) else ((Go.Proofs.YtipfiodeakapdaaDoor.R.Runes.f (⟨#[195, 164, 98]⟩ : ByteArray)).bind fun t121 => (some (t121 == 2))))) else (some false)))) = some r := H
      have A4 := Aside0.mk A40
      clear A40
      by_cases c5 : t118 = true
      · subst c5
        have H1 : (some false) = some r := by rw [if_pos rfl] at H; exact H
        clear H
        have H := H1
        clear H1
        obtain rfl := Option.some.inj H
        go_enter Tryd.func10, Tryd.ntmps10
        (try dsimp only [List.append])
        go_wp2_with (first | ((with_reducible refine gate_callee (f := 11) rfl ?_); refine goesL_ (some 4) rfl rfl Tryd.func11 (by kernel_rfl) rfl #[.string (⟨#[65, 108, 105, 99, 101, 46, 83, 109, 105, 116, 104]⟩ : ByteArray)] rfl (by (try simp only [List.map_toArray, List.map_cons, List.map_nil]); first | done | rfl | (simp only [List.length_drop, List.length_take]; rfl)) ?_; (with_reducible refine (Go.Proofs.YtipfiodeakapdaaDoor.R.Fold.calls (⟨#[65, 108, 105, 99, 101, 46, 83, 109, 105, 116, 104]⟩ : ByteArray) t116 true _ A1.out).mono ?_); rintro e w6 ⟨rfl, hb⟩; refine ⟨_, rfl, ?_⟩; have n0_ := Aside0.mk (below_step (by repeat (first | (with_reducible first | exact HB.out | apply below_alloc | apply pw_below_drewN | apply below_drew1) | exact HB.out)) hb); clear HB; have HB := n0_; clear n0_; (try clear hb); (try clear hb2); (try clear hk); (try clear hi)) | (go_at_call 15; (with_reducible refine (Go.Proofs.YtipfiodeakapdaaDoor.R.Right.calls (⟨#[97, 46, 46, 98]⟩ : ByteArray) true _ A4.out).mono ?_); rintro e w7 ⟨rfl, hb⟩; have n0_ := Aside0.mk (below_step (by repeat (first | (with_reducible first | exact HB.out | apply below_alloc | apply pw_below_drewN | apply below_drew1) | exact HB.out)) hb); clear HB; have HB := n0_; clear n0_; (try clear hb); (try clear hb2); (try clear hk); (try clear hi)))
        go_ret
        exact ⟨by first | rfl | (simp [errW_none, errW_some] <;> rfl) | (simp [*, errW_none, errW_some] <;> rfl), by repeat (first | (with_reducible first | exact HB.out | apply below_alloc | apply pw_below_drewN | apply below_drew1) | exact HB.out)⟩
      · replace c5 := Bool.eq_false_iff.mpr c5
        subst c5
        have H1 : ((label_Match.f k (⟨#[97, 46, 42]⟩ : ByteArray) (⟨#[97, 46, 98]⟩ : ByteArray)).bind fun t119 => (if t119 = true then ((label_Match.f k (⟨#[97, 46, 42, 42]⟩ : ByteArray) (⟨#[97]⟩ : ByteArray)).bind fun t120 => (if t120 = true then (some false) else ((Go.Proofs.YtipfiodeakapdaaDoor.R.Runes.f (⟨#[195, 164, 98]⟩ : ByteArray)).bind fun t121 => (some (t121 == 2))))) else (some false))) = some r := by rw [if_neg (show ¬ (false = true) by decide)] at H; exact H
        clear H
        have H := H1
        clear H1
        replace H := Option.bind_eq_some_iff.mp H
        obtain ⟨t119, A80, H⟩ := H
        replace H : (if t119 = true then ((label_Match.f k (⟨#[97, 46, 42, 42]⟩ : ByteArray) (⟨#[97]⟩ : ByteArray)).bind fun t120 => (if t120 = true then (some false) else ((Go.Proofs.YtipfiodeakapdaaDoor.R.Runes.f (⟨#[195, 164, 98]⟩ : ByteArray)).bind fun t121 => (some (t121 == 2))))) else (some false)) = some r := H
        have A8 := Aside0.mk A80
        clear A80
        by_cases c9 : t119 = true
        · subst c9
          have H1 : ((label_Match.f k (⟨#[97, 46, 42, 42]⟩ : ByteArray) (⟨#[97]⟩ : ByteArray)).bind fun t120 => (if t120 = true then (some false) else ((Go.Proofs.YtipfiodeakapdaaDoor.R.Runes.f (⟨#[195, 164, 98]⟩ : ByteArray)).bind fun t121 => (some (t121 == 2))))) = some r := by rw [if_pos rfl] at H; exact H
          clear H
          have H := H1
          clear H1
          replace H := Option.bind_eq_some_iff.mp H
          obtain ⟨t120, A100, H⟩ := H
          replace H : (if t120 = true then (some false) else ((Go.Proofs.YtipfiodeakapdaaDoor.R.Runes.f (⟨#[195, 164, 98]⟩ : ByteArray)).bind fun t121 => (some (t121 == 2)))) = some r := H
          have A10 := Aside0.mk A100
          clear A100
          by_cases c11 : t120 = true
          · subst c11
            have H1 : (some false) = some r := by rw [if_pos rfl] at H; exact H
            clear H
            have H := H1
            clear H1
            obtain rfl := Option.some.inj H
            go_enter Tryd.func10, Tryd.ntmps10
            (try dsimp only [List.append])
            go_wp2_with (first | ((with_reducible refine gate_callee (f := 11) rfl ?_); refine goesL_ (some 4) rfl rfl Tryd.func11 (by kernel_rfl) rfl #[.string (⟨#[65, 108, 105, 99, 101, 46, 83, 109, 105, 116, 104]⟩ : ByteArray)] rfl (by (try simp only [List.map_toArray, List.map_cons, List.map_nil]); first | done | rfl | (simp only [List.length_drop, List.length_take]; rfl)) ?_; (with_reducible refine (Go.Proofs.YtipfiodeakapdaaDoor.R.Fold.calls (⟨#[65, 108, 105, 99, 101, 46, 83, 109, 105, 116, 104]⟩ : ByteArray) t116 true _ A1.out).mono ?_); rintro e w12 ⟨rfl, hb⟩; refine ⟨_, rfl, ?_⟩; have n0_ := Aside0.mk (below_step (by repeat (first | (with_reducible first | exact HB.out | apply below_alloc | apply pw_below_drewN | apply below_drew1) | exact HB.out)) hb); clear HB; have HB := n0_; clear n0_; (try clear hb); (try clear hb2); (try clear hk); (try clear hi)) | (go_at_call 15; (with_reducible refine (Go.Proofs.YtipfiodeakapdaaDoor.R.Right.calls (⟨#[97, 46, 46, 98]⟩ : ByteArray) false _ A4.out).mono ?_); rintro e w13 ⟨rfl, hb⟩; have n0_ := Aside0.mk (below_step (by repeat (first | (with_reducible first | exact HB.out | apply below_alloc | apply pw_below_drewN | apply below_drew1) | exact HB.out)) hb); clear HB; have HB := n0_; clear n0_; (try clear hb); (try clear hb2); (try clear hk); (try clear hi)) | (go_at_call 20; (with_reducible refine (label_Match.calls k (⟨#[97, 46, 42]⟩ : ByteArray) (⟨#[97, 46, 98]⟩ : ByteArray) true _ A8.out).mono ?_); rintro e w14 ⟨rfl, hb⟩; have n0_ := Aside0.mk (below_step (by repeat (first | (with_reducible first | exact HB.out | apply below_alloc | apply pw_below_drewN | apply below_drew1) | exact HB.out)) hb); clear HB; have HB := n0_; clear n0_; (try clear hb); (try clear hb2); (try clear hk); (try clear hi)) | (go_at_call 20; (with_reducible refine (label_Match.calls k (⟨#[97, 46, 42, 42]⟩ : ByteArray) (⟨#[97]⟩ : ByteArray) true _ A10.out).mono ?_); rintro e w15 ⟨rfl, hb⟩; have n0_ := Aside0.mk (below_step (by repeat (first | (with_reducible first | exact HB.out | apply below_alloc | apply pw_below_drewN | apply below_drew1) | exact HB.out)) hb); clear HB; have HB := n0_; clear n0_; (try clear hb); (try clear hb2); (try clear hk); (try clear hi)))
            go_ret
            exact ⟨by first | rfl | (simp [errW_none, errW_some] <;> rfl) | (simp [*, errW_none, errW_some] <;> rfl), by repeat (first | (with_reducible first | exact HB.out | apply below_alloc | apply pw_below_drewN | apply below_drew1) | exact HB.out)⟩
          · replace c11 := Bool.eq_false_iff.mpr c11
            subst c11
            have H1 : ((Go.Proofs.YtipfiodeakapdaaDoor.R.Runes.f (⟨#[195, 164, 98]⟩ : ByteArray)).bind fun t121 => (some (t121 == 2))) = some r := by rw [if_neg (show ¬ (false = true) by decide)] at H; exact H
            clear H
            have H := H1
            clear H1
            replace H := Option.bind_eq_some_iff.mp H
            obtain ⟨t121, A160, H⟩ := H
            replace H : (some (t121 == 2)) = some r := H
            have A16 := Aside0.mk A160
            clear A160
            obtain rfl := Option.some.inj H
            go_enter Tryd.func10, Tryd.ntmps10
            (try dsimp only [List.append])
            go_wp2_with (first | ((with_reducible refine gate_callee (f := 11) rfl ?_); refine goesL_ (some 4) rfl rfl Tryd.func11 (by kernel_rfl) rfl #[.string (⟨#[65, 108, 105, 99, 101, 46, 83, 109, 105, 116, 104]⟩ : ByteArray)] rfl (by (try simp only [List.map_toArray, List.map_cons, List.map_nil]); first | done | rfl | (simp only [List.length_drop, List.length_take]; rfl)) ?_; (with_reducible refine (Go.Proofs.YtipfiodeakapdaaDoor.R.Fold.calls (⟨#[65, 108, 105, 99, 101, 46, 83, 109, 105, 116, 104]⟩ : ByteArray) t116 true _ A1.out).mono ?_); rintro e w17 ⟨rfl, hb⟩; refine ⟨_, rfl, ?_⟩; have n0_ := Aside0.mk (below_step (by repeat (first | (with_reducible first | exact HB.out | apply below_alloc | apply pw_below_drewN | apply below_drew1) | exact HB.out)) hb); clear HB; have HB := n0_; clear n0_; (try clear hb); (try clear hb2); (try clear hk); (try clear hi)) | (go_at_call 15; (with_reducible refine (Go.Proofs.YtipfiodeakapdaaDoor.R.Right.calls (⟨#[97, 46, 46, 98]⟩ : ByteArray) false _ A4.out).mono ?_); rintro e w18 ⟨rfl, hb⟩; have n0_ := Aside0.mk (below_step (by repeat (first | (with_reducible first | exact HB.out | apply below_alloc | apply pw_below_drewN | apply below_drew1) | exact HB.out)) hb); clear HB; have HB := n0_; clear n0_; (try clear hb); (try clear hb2); (try clear hk); (try clear hi)) | (go_at_call 20; (with_reducible refine (label_Match.calls k (⟨#[97, 46, 42]⟩ : ByteArray) (⟨#[97, 46, 98]⟩ : ByteArray) true _ A8.out).mono ?_); rintro e w19 ⟨rfl, hb⟩; have n0_ := Aside0.mk (below_step (by repeat (first | (with_reducible first | exact HB.out | apply below_alloc | apply pw_below_drewN | apply below_drew1) | exact HB.out)) hb); clear HB; have HB := n0_; clear n0_; (try clear hb); (try clear hb2); (try clear hk); (try clear hi)) | (go_at_call 20; (with_reducible refine (label_Match.calls k (⟨#[97, 46, 42, 42]⟩ : ByteArray) (⟨#[97]⟩ : ByteArray) false _ A10.out).mono ?_); rintro e w20 ⟨rfl, hb⟩; have n0_ := Aside0.mk (below_step (by repeat (first | (with_reducible first | exact HB.out | apply below_alloc | apply pw_below_drewN | apply below_drew1) | exact HB.out)) hb); clear HB; have HB := n0_; clear n0_; (try clear hb); (try clear hb2); (try clear hk); (try clear hi)) | (go_at_call 13; (with_reducible refine (Go.Proofs.YtipfiodeakapdaaDoor.R.Runes.calls (⟨#[195, 164, 98]⟩ : ByteArray) t121 _ A16.out).mono ?_); rintro e w21 ⟨rfl, hb⟩; have n0_ := Aside0.mk (below_step (by repeat (first | (with_reducible first | exact HB.out | apply below_alloc | apply pw_below_drewN | apply below_drew1) | exact HB.out)) hb); clear HB; have HB := n0_; clear n0_; (try clear hb); (try clear hb2); (try clear hk); (try clear hi)))
            go_ret
            exact ⟨by first | rfl | (simp [errW_none, errW_some] <;> rfl) | (simp [*, errW_none, errW_some] <;> rfl), by repeat (first | (with_reducible first | exact HB.out | apply below_alloc | apply pw_below_drewN | apply below_drew1) | exact HB.out)⟩
        · replace c9 := Bool.eq_false_iff.mpr c9
          subst c9
          have H1 : (some false) = some r := by rw [if_neg (show ¬ (false = true) by decide)] at H; exact H
          clear H
          have H := H1
          clear H1
          obtain rfl := Option.some.inj H
          go_enter Tryd.func10, Tryd.ntmps10
          (try dsimp only [List.append])
          go_wp2_with (first | ((with_reducible refine gate_callee (f := 11) rfl ?_); refine goesL_ (some 4) rfl rfl Tryd.func11 (by kernel_rfl) rfl #[.string (⟨#[65, 108, 105, 99, 101, 46, 83, 109, 105, 116, 104]⟩ : ByteArray)] rfl (by (try simp only [List.map_toArray, List.map_cons, List.map_nil]); first | done | rfl | (simp only [List.length_drop, List.length_take]; rfl)) ?_; (with_reducible refine (Go.Proofs.YtipfiodeakapdaaDoor.R.Fold.calls (⟨#[65, 108, 105, 99, 101, 46, 83, 109, 105, 116, 104]⟩ : ByteArray) t116 true _ A1.out).mono ?_); rintro e w22 ⟨rfl, hb⟩; refine ⟨_, rfl, ?_⟩; have n0_ := Aside0.mk (below_step (by repeat (first | (with_reducible first | exact HB.out | apply below_alloc | apply pw_below_drewN | apply below_drew1) | exact HB.out)) hb); clear HB; have HB := n0_; clear n0_; (try clear hb); (try clear hb2); (try clear hk); (try clear hi)) | (go_at_call 15; (with_reducible refine (Go.Proofs.YtipfiodeakapdaaDoor.R.Right.calls (⟨#[97, 46, 46, 98]⟩ : ByteArray) false _ A4.out).mono ?_); rintro e w23 ⟨rfl, hb⟩; have n0_ := Aside0.mk (below_step (by repeat (first | (with_reducible first | exact HB.out | apply below_alloc | apply pw_below_drewN | apply below_drew1) | exact HB.out)) hb); clear HB; have HB := n0_; clear n0_; (try clear hb); (try clear hb2); (try clear hk); (try clear hi)) | (go_at_call 20; (with_reducible refine (label_Match.calls k (⟨#[97, 46, 42]⟩ : ByteArray) (⟨#[97, 46, 98]⟩ : ByteArray) false _ A8.out).mono ?_); rintro e w24 ⟨rfl, hb⟩; have n0_ := Aside0.mk (below_step (by repeat (first | (with_reducible first | exact HB.out | apply below_alloc | apply pw_below_drewN | apply below_drew1) | exact HB.out)) hb); clear HB; have HB := n0_; clear n0_; (try clear hb); (try clear hb2); (try clear hk); (try clear hi)))
          go_ret
          exact ⟨by first | rfl | (simp [errW_none, errW_some] <;> rfl) | (simp [*, errW_none, errW_some] <;> rfl), by repeat (first | (with_reducible first | exact HB.out | apply below_alloc | apply pw_below_drewN | apply below_drew1) | exact HB.out)⟩
    · replace c3 := Bool.eq_false_iff.mpr c3
      subst c3
      have H1 : (some false) = some r := by rw [if_neg (show ¬ (false = true) by decide)] at H; exact H
      clear H
      have H := H1
      clear H1
      obtain rfl := Option.some.inj H
      go_enter Tryd.func10, Tryd.ntmps10
      (try dsimp only [List.append])
      go_wp2_with (first | ((with_reducible refine gate_callee (f := 11) rfl ?_); refine goesL_ (some 4) rfl rfl Tryd.func11 (by kernel_rfl) rfl #[.string (⟨#[65, 108, 105, 99, 101, 46, 83, 109, 105, 116, 104]⟩ : ByteArray)] rfl (by (try simp only [List.map_toArray, List.map_cons, List.map_nil]); first | done | rfl | (simp only [List.length_drop, List.length_take]; rfl)) ?_; (with_reducible refine (Go.Proofs.YtipfiodeakapdaaDoor.R.Fold.calls (⟨#[65, 108, 105, 99, 101, 46, 83, 109, 105, 116, 104]⟩ : ByteArray) t116 false _ A1.out).mono ?_); rintro e w25 ⟨rfl, hb⟩; refine ⟨_, rfl, ?_⟩; have n0_ := Aside0.mk (below_step (by repeat (first | (with_reducible first | exact HB.out | apply below_alloc | apply pw_below_drewN | apply below_drew1) | exact HB.out)) hb); clear HB; have HB := n0_; clear n0_; (try clear hb); (try clear hb2); (try clear hk); (try clear hi)))
      go_ret
      exact ⟨by first | rfl | (simp [errW_none, errW_some] <;> rfl) | (simp [*, errW_none, errW_some] <;> rfl), by repeat (first | (with_reducible first | exact HB.out | apply below_alloc | apply pw_below_drewN | apply below_drew1) | exact HB.out)⟩
  · rw [if_neg c2] at H
    have c2b0 : (t116.toList == ([97, 108, 105, 99, 101, 46, 115, 109, 105, 116, 104] : List UInt8)) = false := beq_eq_false_iff_ne.mpr c2
    have c2b1 : (t116.toList != ([97, 108, 105, 99, 101, 46, 115, 109, 105, 116, 104] : List UInt8)) = true := bne_iff_ne.mpr c2
    obtain rfl := Option.some.inj H
    go_enter Tryd.func10, Tryd.ntmps10
    (try dsimp only [List.append])
    go_wp2_with (first | ((with_reducible refine gate_callee (f := 11) rfl ?_); refine goesL_ (some 4) rfl rfl Tryd.func11 (by kernel_rfl) rfl #[.string (⟨#[65, 108, 105, 99, 101, 46, 83, 109, 105, 116, 104]⟩ : ByteArray)] rfl (by (try simp only [List.map_toArray, List.map_cons, List.map_nil]); first | done | rfl | (simp only [List.length_drop, List.length_take]; rfl)) ?_; (with_reducible refine (Go.Proofs.YtipfiodeakapdaaDoor.R.Fold.calls (⟨#[65, 108, 105, 99, 101, 46, 83, 109, 105, 116, 104]⟩ : ByteArray) t116 t117 _ A1.out).mono ?_); rintro e w26 ⟨rfl, hb⟩; refine ⟨_, rfl, ?_⟩; have n0_ := Aside0.mk (below_step (by repeat (first | (with_reducible first | exact HB.out | apply below_alloc | apply pw_below_drewN | apply below_drew1) | exact HB.out)) hb); clear HB; have HB := n0_; clear n0_; (try clear hb); (try clear hb2); (try clear hk); (try clear hi)))
    go_ret
    exact ⟨by first | rfl | (simp [errW_none, errW_some] <;> rfl) | (simp [*, errW_none, errW_some] <;> rfl), by repeat (first | (with_reducible first | exact HB.out | apply below_alloc | apply pw_below_drewN | apply below_drew1) | exact HB.out)⟩

-- PROVED BY HAND: function 24 (bailiwickref02_runes)

-- PROVED BY HAND: function 26 (bailiwickref02_letter)

end Go.Proofs.YtipfiodeakapdaaDoor.O
