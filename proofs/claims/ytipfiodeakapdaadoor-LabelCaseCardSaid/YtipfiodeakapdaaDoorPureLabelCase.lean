/- A label of letters is folded to the same, however its letters stand: the plain law. No condition. -/
import Derived.Test.YtipfiodeakapdaaDoorB7
import Derived.Test.YtipfiodeakapdaaDoorOx6
import Derived.OpenShut
namespace Go.Proofs.YtipfiodeakapdaaDoor.Pure
set_option linter.unusedVariables false
set_option linter.unusedSimpArgs false
open Go.RowKit Go.Proofs.YtipfiodeakapdaaDoor.R Go.Proofs.YtipfiodeakapdaaDoorW.PrintWords Go.Proofs.YtipfiodeakapdaaDoorW.PrintLast
def small (c : UInt8) : Prop := 97 ≤ c.toNat ∧ c.toNat ≤ 122
def great (c : UInt8) : Prop := 65 ≤ c.toNat ∧ c.toNat ≤ 90
theorem plain_of {c : UInt8} (h : small c ∨ great c) : plainB (c.toNat : Int) = true := by
  unfold small great at h
  unfold plainB
  exact decide_eq_true (by omega)
theorem lowU_small {c : UInt8} (h : small c) : lowU c = c := by
  unfold small at h
  rw [lowU, if_neg (by omega)]
theorem ascii_of {l : List UInt8} (h : ∀ c ∈ l, small c ∨ great c) : ascii l := fun c hc => by
  have := h c hc
  unfold small great at this
  omega
theorem plain_all {l : List UInt8} (h : ∀ c ∈ l, small c ∨ great c) : ∀ r ∈ l.map UInt8.toNat, plainB (r : Nat) = true := fun r hr => by
  obtain ⟨c, hc, rfl⟩ := List.mem_map.1 hr
  exact plain_of (h c hc)
theorem right_letters (l : List UInt8) (h0 : l ≠ []) (hn : l.length ≤ 12) (h : ∀ c ∈ l, small c ∨ great c) : rightB (bs l) = true := by
  rw [right_ascii l (ascii_of h), good_letters _ (by simpa using h0) (plain_all h), Bool.and_true]
  have : l.length ≠ 0 := fun e => h0 (List.eq_nil_of_length_eq_zero e)
  exact decide_eq_true ⟨this, by omega⟩
theorem lowS_bs (l : List UInt8) : lowS (bs l) = bs (l.map lowU) := rfl
theorem right_not (l : List UInt8) (ha : ascii l) (h : goodL (l.map UInt8.toNat) true 46 = false) : rightB (bs l) = false := by
  rw [right_ascii l ha, h, Bool.and_false]
theorem right_f (l : List UInt8) (hz : l.length ≤ 1000) (b : Bool) (h : rightB (bs l) = b) : Right.f (bs l) = some b := by
  rw [Right.f, if_pos (by rw [bs_size]; omega), h]
theorem ascii_app {l m : List UInt8} (h : ascii l) (k : ascii m) : ascii (l ++ m) := fun c hc => by
  rcases List.mem_append.1 hc with hc | hc
  · exact h c hc
  · exact k c hc
theorem fin_case (k : Nat) (s : ByteArray) (g x2 i : Int) (L M : List UInt8) (h0 : L ≠ []) (hn : L.length ≤ 12) (hl : ∀ c ∈ L, small c) (hm : ∀ c ∈ M, small c ∨ great c) (hML : M.map lowU = L) (h20 : 0 ≤ x2) (h21 : x2 ≤ 255) :
    O.bailiwicklaw02_LabelCase.j1 (k + 1) s g x2 true (bs L) (bs M) i false = some true := by
  have hl2 : ∀ c ∈ L, small c ∨ great c := fun c hc => .inl (hl c hc)
  have aL := ascii_of hl2
  have pL := plain_all hl2
  have hMn : M.length = L.length := by rw [← hML, List.length_map]
  have hM0 : M ≠ [] := fun e => h0 (by rw [← hML, e]; rfl)
  have rL := right_letters L h0 hn hl2
  have rM := right_letters M hM0 (by omega) hm
  have p45 : plainB 45 = false := by decide
  have p46 : plainB 46 = false := by decide
  have fL : Fold.f (bs L) = some (bs L, true) := by
    rw [Fold.f, if_pos (by rw [bs_size]; omega), rL, fold_low _ rL, lowS_bs]
    rw [show L.map lowU = L from (List.map_congr_left (fun c hc => lowU_small (hl c hc))).trans (List.map_id _)]
  have fM : Fold.f (bs M) = some (bs L, true) := by
    rw [Fold.f, if_pos (by rw [bs_size]; omega), rM, fold_low _ rM, lowS_bs, hML]
  have a45 : ascii [45] := fun c hc => by rw [List.mem_singleton.1 hc]; decide
  have a46 : ascii [46] := fun c hc => by rw [List.mem_singleton.1 hc]; decide
  have last : ∀ (r : Nat) (l : List Nat), plainB (r : Nat) = false → goodL (l ++ [r]) true 46 = false := fun r l hr => by
    cases hg : goodL (l ++ [r]) true 46
    · rfl
    · rw [good_last _ _ _ _ hg] at hr; cases hr
  have r1 : Right.f (bs L ++ (⟨#[45]⟩ : ByteArray)) = some false := (congrArg Right.f (bs_append L [45])).trans (right_f _ (by simp; omega) _ (right_not _ (ascii_app aL a45) (by rw [List.map_append]; exact last 45 _ p45)))
  have r3 : Right.f (bs L ++ (⟨#[46]⟩ : ByteArray)) = some false := (congrArg Right.f (bs_append L [46])).trans (right_f _ (by simp; omega) _ (right_not _ (ascii_app aL a46) (by rw [List.map_append]; exact last 46 _ p46)))
  have r2 : Right.f ((⟨#[46]⟩ : ByteArray) ++ bs L) = some false := (congrArg Right.f (bs_append [46] L)).trans (right_f _ (by simp; omega) _ (right_not _ (ascii_app a46 aL) (by
    show goodL (46 :: L.map UInt8.toNat) true 46 = false
    rw [goodL, show ((46 : Nat) : Int) = 46 from rfl, p46]
    rfl)))
  have r4 : Right.f ((⟨#[45]⟩ : ByteArray) ++ bs L) = some false := (congrArg Right.f (bs_append [45] L)).trans (right_f _ (by simp; omega) _ (right_not _ (ascii_app a45 aL) (by
    show goodL (45 :: L.map UInt8.toNat) true 46 = false
    rw [goodL, show ((45 : Nat) : Int) = 45 from rfl, p45]
    rfl)))
  obtain ⟨c0, L', hL⟩ : ∃ c0 L', L = c0 :: L' := by
    cases L with
    | nil => exact absurd rfl h0
    | cons c l => exact ⟨c, l, rfl⟩
  have hc0 : small c0 := hl c0 (by rw [hL]; exact List.mem_cons_self)
  have ac0 : ascii [c0] := fun c hc => by rw [List.mem_singleton.1 hc]; unfold small at hc0; omega
  have ex : (bs L).extract 0 1 = bs [c0] := by
    apply ByteArray.ext
    rw [hL]
    simp [bs, ByteArray.data_extract]
  have mid : ∀ m : UInt8, (m = 45 ∨ m = 46) → Right.f (bs (L ++ [m] ++ [c0])) = some true := fun m hm => by
    refine right_f _ (by simp; omega) _ ?_
    have am : ascii [m] := fun c hc => by rw [List.mem_singleton.1 hc]; rcases hm with rfl | rfl <;> decide
    rw [right_ascii _ (ascii_app (ascii_app aL am) ac0), List.map_append, List.map_append, List.append_assoc (L.map UInt8.toNat)]
    rw [show [m].map UInt8.toNat ++ [c0].map UInt8.toNat = [m.toNat, c0.toNat] from rfl, good_mid _ _ _ (by simpa using h0) pL (by rcases hm with rfl | rfl <;> simp) (plain_of (.inl hc0)), Bool.and_true]
    exact decide_eq_true ⟨by simp, by simp; omega⟩
  have r5 : Right.f ((bs L ++ (⟨#[45]⟩ : ByteArray)) ++ bs [c0]) = some true := by
    have e : (bs L ++ (⟨#[45]⟩ : ByteArray)) ++ bs [c0] = bs (L ++ [45] ++ [c0]) := by rw [show (⟨#[45]⟩ : ByteArray) = bs [45] from rfl, bs_append, bs_append]
    rw [e]; exact mid 45 (.inl rfl)
  have r6 : Right.f ((bs L ++ (⟨#[46]⟩ : ByteArray)) ++ bs [c0]) = some true := by
    have e : (bs L ++ (⟨#[46]⟩ : ByteArray)) ++ bs [c0] = bs (L ++ [46] ++ [c0]) := by rw [show (⟨#[46]⟩ : ByteArray) = bs [46] from rfl, bs_append, bs_append]
    rw [e]; exact mid 46 (.inr rfl)
  have t2 : 0 ≤ Int.tmod x2 64 ∧ Int.tmod x2 64 < 64 := ⟨Int.tmod_nonneg _ h20, Int.tmod_lt_of_pos x2 (by decide)⟩
  have b2 := b8_nat ((128 + Int.tmod x2 64) % 256) (by omega) (by omega)
  have r7 : Right.f (bs L ++ strOfNums [(128 + Int.tmod x2 64) % 256]) = some false := by
    rw [str_one, bs_append]
    refine right_f _ (by simp; omega) _ ?_
    rw [right_good, rns_bad L _ aL (by omega) (by omega), last 65533 _ (by decide), Bool.and_false]
  have a32 : ascii [32, 120] := fun c hc => by
    rcases List.mem_cons.1 hc with rfl | hc
    · decide
    · rw [List.mem_singleton.1 hc]; decide
  have r8 : Right.f (bs L ++ (⟨#[32, 120]⟩ : ByteArray)) = some false := (congrArg Right.f (bs_append L [32, 120])).trans (right_f _ (by simp; omega) _ (right_not _ (ascii_app aL a32) (by
    cases hg : goodL ((L ++ [32, 120]).map UInt8.toNat) true 46
    · rfl
    · have := good_all _ _ _ hg 32 (by rw [List.map_append]; exact List.mem_append_right _ (by simp))
      revert this
      decide)))
  have z0 : (bs L).size = L.length := bs_size L
  have z1 : (bs L).size + 1 ≤ 9223372036854775807 := by omega
  have z2 : 1 + (bs L).size ≤ 9223372036854775807 := by omega
  have z3 : 1 ≤ ((bs L).size : Int) := by rw [z0, hL, List.length_cons]; omega
  have z4 : (bs L ++ (⟨#[45]⟩ : ByteArray)).size + (bs [c0]).size ≤ 9223372036854775807 := by rw [ByteArray.size_append, bs_size [c0]]; show (bs L).size + 1 + 1 ≤ _; omega
  have z5 : (bs L ++ (⟨#[46]⟩ : ByteArray)).size + (bs [c0]).size ≤ 9223372036854775807 := by rw [ByteArray.size_append, bs_size [c0]]; show (bs L).size + 1 + 1 ≤ _; omega
  have z6 : (bs L).size + (strOfNums [(128 + Int.tmod x2 64) % 256]).size ≤ 9223372036854775807 := by rw [str_one, bs_size]; show L.length + 1 ≤ _; omega
  have z7 : (bs L).size + 2 ≤ 9223372036854775807 := by omega
  have n0 : ¬ (bs L).toList = [] := by rw [bs_list]; exact h0
  rw [O.bailiwicklaw02_LabelCase.j1, if_neg (by decide), if_neg n0, fL, Option.bind_some, fM, Option.bind_some, if_pos z1, r1, Option.bind_some, if_neg (by decide), if_pos z2, r2, Option.bind_some, if_neg (by decide), r3, Option.bind_some, if_neg (by decide), r4, Option.bind_some, if_neg (by decide), if_pos (by decide), if_pos z3, ex, if_pos z4, r5, Option.bind_some, if_pos rfl, if_pos z5, r6, Option.bind_some, if_pos rfl, if_pos rfl, if_pos rfl, if_pos rfl, if_pos rfl, if_pos rfl, Option.bind_some, if_pos z6, r7, Option.bind_some, if_neg (by decide), if_pos z7, r8, Option.bind_some]
  rfl
def letter (s : ByteArray) (i : Nat) : UInt8 := b8 ((97 + Int.tmod (bt s (i : Int)) 26) % 256)
def letters (s : ByteArray) (i : Nat) : List UInt8 := (List.range i).map (letter s)
theorem letters_succ (s : ByteArray) (i : Nat) : letters s (i + 1) = letters s i ++ [letter s i] := by
  rw [letters, List.range_succ, List.map_append]; rfl
theorem letter_small (s : ByteArray) (i : Nat) : small (letter s i) ∧ (letter s i).toNat = 97 + (Int.tmod (bt s (i : Int)) 26).toNat := by
  have b := bt_range s (i : Int)
  have t2 : 0 ≤ Int.tmod (bt s (i : Int)) 26 ∧ Int.tmod (bt s (i : Int)) 26 < 26 := ⟨Int.tmod_nonneg _ b.1, Int.tmod_lt_of_pos _ (by decide)⟩
  have e := b8_nat ((97 + Int.tmod (bt s (i : Int)) 26) % 256) (by omega) (by omega)
  unfold small letter
  omega
theorem letters_small (s : ByteArray) (i : Nat) : ∀ c ∈ letters s i, small c := fun c hc => by
  obtain ⟨j, _, rfl⟩ := List.mem_map.1 hc
  exact (letter_small s j).1
theorem letters_len (s : ByteArray) (i : Nat) : (letters s i).length = i := by simp [letters]
theorem case_loop (k : Nat) (s : ByteArray) (g x2 : Int) (h20 : 0 ≤ x2) (h21 : x2 ≤ 255) : ∀ j i M, i + j = min s.size 12 → M.map lowU = letters s i → (∀ c ∈ M, small c ∨ great c) →
    O.bailiwicklaw02_LabelCase.l0 (2 * j + 2 + k) s g x2 true (bs (letters s i)) (bs M) (i : Int) = some true
  | 0, i, M, e, hM, hm => by
    have fin : O.bailiwicklaw02_LabelCase.j1 (k + 1) s g x2 true (bs (letters s i)) (bs M) (i : Int) false = some true := by
      by_cases h0 : i = 0
      · subst h0
        have M0 : M = [] := by
          have := congrArg List.length hM
          rw [List.length_map] at this
          exact List.eq_nil_of_length_eq_zero this
        rw [M0]
        have q1 : Right.f (bs (letters s 0)) = some false := by
          show Right.f (bs []) = some false
          decide +kernel
        have q2 : Right.f (⟨#[45]⟩ : ByteArray) = some false := by decide +kernel
        have q3 : Right.f (⟨#[46]⟩ : ByteArray) = some false := by decide +kernel
        rw [O.bailiwicklaw02_LabelCase.j1, if_neg (by decide), if_pos (by rw [bs_list]; rfl), if_pos rfl, q1, Option.bind_some, if_neg (by decide), q2, Option.bind_some, if_neg (by decide), q3, Option.bind_some]
        rfl
      · have hl := letters_len s i
        exact fin_case k s g x2 i (letters s i) M (fun e => h0 (by rw [e] at hl; exact hl.symm)) (by omega) (letters_small s i) hm hM h20 h21
    rw [show 2 * 0 + 2 + k = (k + 1) + 1 by omega, O.bailiwicklaw02_LabelCase.l0]
    by_cases h1 : (i : Int) < (s.size : Int)
    · rw [if_pos h1, decide_eq_false (by omega)]; exact fin
    · rw [if_neg h1]; exact fin
  | j + 1, i, M, e, hM, hm => by
    have n1 : wrap64 ((i : Int) + 1) = ((i + 1 : Nat) : Int) := by rw [w64 _ (by omega) (by omega)]; omega
    have hl := letters_len s i
    have hMn : M.length = i := by have h_ := congrArg List.length hM; rw [List.length_map, hl] at h_; exact h_
    have b := bt_range s (i : Int)
    obtain ⟨ls, ln⟩ := letter_small s i
    have t2 : 0 ≤ Int.tmod (bt s (i : Int)) 26 ∧ Int.tmod (bt s (i : Int)) 26 < 26 := ⟨Int.tmod_nonneg _ b.1, Int.tmod_lt_of_pos _ (by decide)⟩
    have sL : strOfNums [(97 + Int.tmod (bt s (i : Int)) 26) % 256] = bs [letter s i] := rfl
    have u := b8_nat (((((97 + Int.tmod (bt s (i : Int)) 26) % 256 - 97) % 256) + 65) % 256) (by omega) (by omega)
    have ug : great (b8 (((((97 + Int.tmod (bt s (i : Int)) 26) % 256 - 97) % 256) + 65) % 256)) := by unfold great; omega
    have ul : lowU (b8 (((((97 + Int.tmod (bt s (i : Int)) 26) % 256 - 97) % 256) + 65) % 256)) = letter s i := by
      apply UInt8.toNat_inj.1
      unfold great at ug
      rw [lowU_toNat, lowN, if_pos ug]
      omega
    have z1 : (bs (letters s i)).size + (bs [letter s i]).size ≤ 9223372036854775807 := by rw [bs_size, bs_size, hl]; show i + 1 ≤ _; omega
    have z2 : ∀ c : UInt8, (bs M).size + (bs [c]).size ≤ 9223372036854775807 := fun c => by rw [bs_size, bs_size, hMn]; show i + 1 ≤ _; omega
    have nl : bs (letters s i) ++ bs [letter s i] = bs (letters s (i + 1)) := by rw [bs_append, letters_succ]
    rw [show 2 * (j + 1) + 2 + k = (2 * j + 2 + k + 1) + 1 by omega, O.bailiwicklaw02_LabelCase.l0, if_pos (by omega), decide_eq_true (by omega), O.bailiwicklaw02_LabelCase.j1, if_pos rfl, if_pos (by omega), if_pos (by omega), Option.bind_some, sL, if_pos z1, nl, n1]
    by_cases hg : Int.tmod (shr .i64 g (i : Int)) 2 = 0
    · rw [if_pos hg, Option.bind_some, sL, if_pos (z2 _), bs_append]
      refine case_loop k s g x2 h20 h21 j (i + 1) (M ++ [letter s i]) (by omega) ?_ ?_
      · rw [List.map_append, hM, letters_succ]
        show letters s i ++ [lowU (letter s i)] = _
        rw [lowU_small ls]
      · intro c hc
        rcases List.mem_append.1 hc with hc | hc
        · exact hm c hc
        · rw [List.mem_singleton.1 hc]; exact .inl ls
    · rw [if_neg hg, Option.bind_some, str_one, if_pos (z2 _), bs_append]
      refine case_loop k s g x2 h20 h21 j (i + 1) (M ++ [_]) (by omega) ?_ ?_
      · rw [List.map_append, hM, letters_succ]
        show letters s i ++ [lowU _] = _
        rw [ul]
      · intro c hc
        rcases List.mem_append.1 hc with hc | hc
        · exact hm c hc
        · rw [List.mem_singleton.1 hc]; exact .inr ug
theorem LabelCase : O.bailiwicklaw02_LabelCase.Pure := by
  intro a0 a1 a2 hs h1 h2
  have b2 := bounds_u8 h2
  refine ⟨2 * min a0.size 12 + 2 + 40, ?_⟩
  rw [O.bailiwicklaw02_LabelCase.f, ex_le _ (by omega), Option.bind_some, if_pos rfl]
  exact case_loop 40 a0 a1 a2 b2.1 b2.2 (min a0.size 12) 0 [] (by omega) rfl (fun c hc => by cases hc)
end Go.Proofs.YtipfiodeakapdaaDoor.Pure
